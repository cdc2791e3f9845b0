/-
  Parts of a walk: what functions of the program compute, each told by a theorem (Qvn1, QF8, Qvt1, Qvt10, QFun, Qvk1, Qvp1, QBld, QvSB, QvSB2, Qvn2, Qvs1, Qvs2).
-/
import Derived.Test.YtcjjknilhceeeaaGreatDoorB2
import Derived.LoopN
import Derived.Lib.AppendStr
import Derived.Lib.UnsafeStr
import Derived.Lib.Builder
set_option linter.unusedVariables false
set_option linter.unusedSimpArgs false
set_option linter.unnecessarySimpa false
namespace Go.Q
open Go.Proofs
set_option linter.unusedVariables false
set_option maxRecDepth 100000
attribute [local irreducible] wpList OK Code.wp
set_option maxHeartbeats 4000000 in
theorem fits_c {E w : World} {R : List Hp} (hH : Has E w [R]) (n : Int) (m : Nat) (hm : m ≤ 8) :
    Calls Tryz.prog 142 #[(.int .i64 n), (.int .i64 (m : Int))] w fun e w' => e = .returned (.bool (fitsS n m)) ∧ Has E w' [R] := by
  refine c_enter (args := [(.int .i64 n), (.int .i64 (m : Int))]) Tryz.func142 rfl Tryz.ntmps142 (by simp) ?_
  refine wp_seq_k fun K1 hK1 => ?_
  refine c_region ?_
  refine s_op (o_assign (v := (.bool false)) rfl ?_)
  refine s_nil ?_
  refine t_norm (hK1 _ _ ?_)
  refine wp_seq_k fun K2 hK2 => ?_
  refine c_region ?_
  refine s_op (o_move (v := (.int .i64 n)) rfl ?_)
  refine s_op (o_geq (a := n) (b := 0) rfl rfl ?_)
  refine s_op (o_move (v := (.bool (decide (0 ≤ n)))) rfl ?_)
  by_cases h3 : 0 ≤ n
  · -- 0 ≤ n
    refine s_on 7 rfl (congrArg Value.bool (decide_eq_true h3)) (o_move (v := (.int .i64 (m : Int))) rfl ?_)
    refine s_on 7 rfl (congrArg Value.bool (decide_eq_true h3)) (o_eql (a := (m : Int)) (b := 8) rfl rfl ?_)
    refine s_on 7 rfl (congrArg Value.bool (decide_eq_true h3)) (o_move (v := (.bool (decide ((m : Int) = 8)))) rfl ?_)
    by_cases h4 : (m : Int) = 8
    · -- (m : Int) = 8
      refine s_off (b' := true) 10 rfl (congrArg Value.bool (decide_eq_true h4)) rfl ?_
      refine s_off (b' := true) 10 rfl (congrArg Value.bool (decide_eq_true h4)) rfl ?_
      refine s_off (b' := true) 10 rfl (congrArg Value.bool (decide_eq_true h4)) rfl ?_
      refine s_off (b' := true) 10 rfl (congrArg Value.bool (decide_eq_true h4)) rfl ?_
      refine s_off (b' := true) 10 rfl (congrArg Value.bool (decide_eq_true h4)) rfl ?_
      refine s_on 7 rfl (congrArg Value.bool (decide_eq_true h3)) (o_pick_t (u := (.bool true)) ((rfl : _ = _).trans (congrArg Value.bool (decide_eq_true h4))) rfl ?_)
      refine s_op (o_pick_t (u := (.bool true)) ((rfl : _ = _).trans (congrArg Value.bool (decide_eq_true h3))) rfl ?_)
      refine s_op (o_assign (v := (.bool true)) rfl ?_)
      refine s_nil ?_
      refine t_norm (hK2 _ _ ?_)
      refine wp_ret ?_
      refine c_ret1 Tryz.results142  (v := (.bool true)) rfl ?_
      exact ⟨by simp [fitsS, *], hH⟩
    · -- not: (m : Int) = 8
      refine s_on 10 rfl (congrArg Value.bool (decide_eq_false h4)) (o_move (v := (.int .i64 n)) rfl ?_)
      refine s_on 10 rfl (congrArg Value.bool (decide_eq_false h4)) (o_move (v := (.int .i64 (m : Int))) rfl ?_)
      refine s_on 10 rfl (congrArg Value.bool (decide_eq_false h4)) (o_mul (a := 8) (b := (m : Int)) rfl rfl (w64 (by omega) (by omega)) ?_)
      refine s_on 10 rfl (congrArg Value.bool (decide_eq_false h4)) (o_shr (c := Int.fdiv n (2 ^ (min (8 * (m : Int)).toNat 64))) rfl rfl (by omega) rfl ?_)
      refine s_on 10 rfl (congrArg Value.bool (decide_eq_false h4)) (o_eql (a := Int.fdiv n (2 ^ (min (8 * (m : Int)).toNat 64))) (b := 0) rfl rfl ?_)
      refine s_on 7 rfl (congrArg Value.bool (decide_eq_true h3)) (o_pick_f (u := (.bool (decide (Int.fdiv n (2 ^ (min (8 * (m : Int)).toNat 64)) = 0)))) ((rfl : _ = _).trans (congrArg Value.bool (decide_eq_false h4))) rfl ?_)
      refine s_op (o_pick_t (u := (.bool (decide (Int.fdiv n (2 ^ (min (8 * (m : Int)).toNat 64)) = 0)))) ((rfl : _ = _).trans (congrArg Value.bool (decide_eq_true h3))) rfl ?_)
      refine s_op (o_assign (v := (.bool (decide (Int.fdiv n (2 ^ (min (8 * (m : Int)).toNat 64)) = 0)))) rfl ?_)
      refine s_nil ?_
      refine t_norm (hK2 _ _ ?_)
      refine wp_ret ?_
      refine c_ret1 Tryz.results142  (v := (.bool (decide (Int.fdiv n (2 ^ (min (8 * (m : Int)).toNat 64)) = 0)))) rfl ?_
      exact ⟨by simp [fitsS, *], hH⟩
  · -- not: 0 ≤ n
    refine s_off (b' := false) 7 rfl (congrArg Value.bool (decide_eq_false h3)) rfl ?_
    refine s_off (b' := false) 7 rfl (congrArg Value.bool (decide_eq_false h3)) rfl ?_
    refine s_off (b' := false) 7 rfl (congrArg Value.bool (decide_eq_false h3)) rfl ?_
    refine s_offu 10 rfl rfl ?_
    refine s_offu 10 rfl rfl ?_
    refine s_offu 10 rfl rfl ?_
    refine s_offu 10 rfl rfl ?_
    refine s_offu 10 rfl rfl ?_
    refine s_off (b' := false) 7 rfl (congrArg Value.bool (decide_eq_false h3)) rfl ?_
    refine s_op (o_pick_f (u := (.bool false)) ((rfl : _ = _).trans (congrArg Value.bool (decide_eq_false h3))) rfl ?_)
    refine s_op (o_assign (v := (.bool false)) rfl ?_)
    refine s_nil ?_
    refine t_norm (hK2 _ _ ?_)
    refine wp_ret ?_
    refine c_ret1 Tryz.results142  (v := (.bool false)) rfl ?_
    exact ⟨by simp [fitsS, *], hH⟩
set_option maxHeartbeats 4000000 in
theorem put_c {E w : World} {R : List Hp} (hH : Has E w [R]) (m : Nat) {v : Value} {l : List Int} (hv : Ints R v l) (hl : l.length ≤ 1000000) :
    Calls Tryz.prog 121 #[(.int .i64 (m : Int)), v] w fun e w' => e = .returned (S (putS m l)) ∧ Has E w' [R] := by
  have hml0 : 0 ≤ (m : Int) * (l.length : Int) := Int.mul_nonneg (by omega) (by omega)
  have hml : m ≤ 8 → (m : Int) * (l.length : Int) ≤ 8000000 := fun h => by have h2 : m * l.length ≤ 8 * 1000000 := Nat.mul_le_mul h hl; have h3 := Int.ofNat_le.2 h2; rw [Int.natCast_mul] at h3; omega
  refine c_enter (args := [(.int .i64 (m : Int)), v]) Tryz.func121 rfl Tryz.ntmps121 (by simp) ?_
  refine wp_seq_k fun K1 hK1 => ?_
  refine c_region ?_
  refine s_op (o_assign (v := (S ([] : List UInt8))) rfl ?_)
  refine s_nil ?_
  refine t_norm (hK1 _ _ ?_)
  refine wp_seq_k fun K2 hK2 => ?_
  refine wp_seq_k fun K3 hK3 => ?_
  refine c_region ?_
  refine s_op (o_move (v := (.int .i64 (m : Int))) rfl ?_)
  refine s_op (o_lss (a := (m : Int)) (b := 1) rfl rfl ?_)
  refine s_op (o_move (v := (.bool (decide ((m : Int) < 1)))) rfl ?_)
  by_cases h4 : (m : Int) < 1
  · -- (m : Int) < 1
    refine s_off (b' := true) 11 rfl (congrArg Value.bool (decide_eq_true h4)) rfl ?_
    refine s_off (b' := true) 11 rfl (congrArg Value.bool (decide_eq_true h4)) rfl ?_
    refine s_op (o_pick_t (u := (.bool true)) ((rfl : _ = _).trans (congrArg Value.bool (decide_eq_true h4))) rfl ?_)
    refine s_nil ?_
    refine t_norm (hK3 _ _ ?_)
    refine c_true rfl rfl ?_
    refine wp_seq_k fun K5 hK5 => ?_
    refine c_region ?_
    refine s_op (o_assign (v := (S ([] : List UInt8))) rfl ?_)
    refine s_nil ?_
    refine t_norm (hK5 _ _ ?_)
    refine wp_ret ?_
    refine t_ret (c_ret1 Tryz.results121  (v := (S ([] : List UInt8))) rfl ?_)
    exact ⟨by rw [putS, if_neg (by omega)], hH⟩
  · -- not: (m : Int) < 1
    refine s_on 11 rfl (congrArg Value.bool (decide_eq_false h4)) (o_move (v := (.int .i64 (m : Int))) rfl ?_)
    refine s_on 11 rfl (congrArg Value.bool (decide_eq_false h4)) (o_gtr (a := (m : Int)) (b := 8) rfl rfl ?_)
    refine s_op (o_pick_f (u := (.bool (decide (8 < (m : Int))))) ((rfl : _ = _).trans (congrArg Value.bool (decide_eq_false h4))) rfl ?_)
    refine s_nil ?_
    refine t_norm (hK3 _ _ ?_)
    refine c_cond rfl (fun h6 => ?_) (fun h6 => ?_)
    · -- 8 < (m : Int)
      refine wp_seq_k fun K7 hK7 => ?_
      refine c_region ?_
      refine s_op (o_assign (v := (S ([] : List UInt8))) rfl ?_)
      refine s_nil ?_
      refine t_norm (hK7 _ _ ?_)
      refine wp_ret ?_
      refine t_ret (c_ret1 Tryz.results121  (v := (S ([] : List UInt8))) rfl ?_)
      exact ⟨by rw [putS, if_neg (by omega)], hH⟩
    · -- not: 8 < (m : Int)
      refine wp_skip ?_
      refine t_norm (hK2 _ _ ?_)
      refine wp_seq_k fun K8 hK8 => ?_
      refine c_region ?_
      refine s_op (o_move (v := (.int .i64 (m : Int))) rfl ?_)
      refine s_op (o_move (v := v) rfl ?_)
      refine s_op (o_lenS Tryz.underlying40 rfl hv ?_)
      refine s_op (o_mul (a := (m : Int)) (b := ((l.length : Nat) : Int)) rfl rfl (w64 (by omega) (by omega)) ?_)
      refine s_op (o_make Tryz.underlying54 ti5 rfl rfl (by omega) (by omega) (by omega) (by omega) hH fun v9 s10 w12 ho11 hH13 => ?_)
      have ho11 : Own 5 1 v9 0 [] s10 := by simpa using ho11
      refine s_op (o_assign (v := v9) rfl ?_)
      refine s_nil ?_
      refine t_norm (hK8 _ _ ?_)
      refine wp_seq_k fun K14 hK14 => ?_
      refine wp_seq_k fun K15 hK15 => ?_
      refine c_region ?_
      refine s_op (o_move (v := v) rfl ?_)
      refine s_op (o_lenS Tryz.underlying40 rfl hv ?_)
      refine s_op (o_move (v := (.int .i64 0)) rfl ?_)
      refine s_nil ?_
      refine t_norm (hK15 _ _ ?_)
      refine wp_block ?_
      let I17 : Nat → (Nat → Value) → World → Prop := fun n__ r__ w__ => ∃ (k : Nat) (vb : Value) (hs : List Hp) (lb : List UInt8), n__ = l.length - k ∧ Has E w__ [hs, R] ∧ (k ≤ l.length) ∧ (Own 5 1 vb lb.length (lb.map bV) hs) ∧ (lb = (l.take k).flatMap (beFrom · m)) ∧ (∀ x ∈ l.take k, fitsS x m = true) ∧ (lb.length ≤ 8 * k) ∧ r__ 0 = (.int .i64 (m : Int)) ∧ r__ 1 = v ∧ r__ 5 = vb ∧ r__ 14 = (.bool (decide (8 < (m : Int)))) ∧ r__ 20 = v ∧ r__ 21 = (.int .i64 ((l.length : Nat) : Int)) ∧ r__ 22 = (.int .i64 (k : Int))
      refine c_loop I17 _ ⟨0, v9, s10, [], rfl, hH13, Nat.zero_le _, ho11, rfl, (by simp), (by simp), rfl, rfl, rfl, rfl, rfl, rfl, rfl⟩ ?_
      rintro n_ r20 w18 ⟨k, vb, hs, lb, rfl, hH19, hk, hob, hlb, hfit, hlen, e16_0, e16_1, e16_5, e16_14, e16_20, e16_21, e16_22⟩
      refine wp_seq_k fun K21 hK21 => ?_
      refine c_region ?_
      refine s_op (o_lss (a := (k : Int)) (b := ((l.length : Nat) : Int)) e16_22 e16_21 ?_)
      refine s_nil ?_
      refine t_norm (hK21 _ _ ?_)
      refine wp_seq_k fun K22 hK22 => ?_
      refine c_cond rfl (fun h23 => ?_) (fun h23 => ?_)
      · -- (k : Int) < ((l.length : Nat) : Int)
        refine wp_skip ?_
        refine t_norm (hK22 _ _ ?_)
        refine wp_seq_k fun K24 hK24 => ?_
        refine wp_block ?_
        refine wp_seq_k fun K25 hK25 => ?_
        refine c_region ?_
        obtain ⟨x29, hx30⟩ : ∃ x_, l[((k : Int)).toNat]? = some x_ := get_some (by omega)
        refine s_op (o_index1 Tryz.underlying40 ti3 e16_20 hv e16_22 (by omega) hx30 fun b26 o27 hc28 => ?_)
        refine s_op (o_load1 (v := (.int .i64 x29)) Tryz.underlying3 rfl rfl hH19 (seg_sub 1 rfl) hc28 ?_)
        refine s_op (o_assign (v := (.int .i64 x29)) rfl ?_)
        refine s_nil ?_
        refine t_norm (hK25 _ _ ?_)
        refine wp_seq_k fun K31 hK31 => ?_
        refine wp_seq_k fun K32 hK32 => ?_
        refine c_region ?_
        refine s_op (o_move (v := (.int .i64 x29)) rfl ?_)
        refine s_op (o_move (v := (.int .i64 (m : Int))) e16_0 ?_)
        refine s_op (o_callf (vs := #[(.int .i64 x29), (.int .i64 (m : Int))]) ca142 rfl (args2 rfl rfl) (fits_c hH19.all x29 m (by omega)) ?_)
        rintro _ w35 ⟨rfl, hX33⟩
        refine ⟨_, rfl, ?_⟩
        have hH34 := hX33.of_all
        refine s_op (o_not rfl ?_)
        refine s_nil ?_
        refine t_norm (hK32 _ _ ?_)
        refine c_condb rfl (fun h36 => ?_) (fun h36 => ?_)
        · -- !(fitsS x29 m)
          have h36_n : (fitsS x29 m) = false := by simpa using h36
          refine wp_seq_k fun K37 hK37 => ?_
          refine c_region ?_
          refine s_op (o_assign (v := (S ([] : List UInt8))) rfl ?_)
          refine s_nil ?_
          refine t_norm (hK37 _ _ ?_)
          refine wp_ret ?_
          refine t_ret (b_ret (t_ret (t_ret (b_ret (t_ret (c_ret1 Tryz.results121  (v := (S ([] : List UInt8))) rfl ?_))))))
          have hH38 : Has E w35 [R] := (hH34.front 1 rfl).first 1 rfl
          exact ⟨by rw [putS_no (x := x29) (List.mem_of_getElem? hx30) (by simpa using h36)], hH38⟩
        · -- not: !(fitsS x29 m)
          have h36_n : (fitsS x29 m) = true := by simpa using h36
          refine wp_skip ?_
          refine t_norm (hK31 _ _ ?_)
          refine wp_seq_k fun K39 hK39 => ?_
          refine c_region ?_
          refine s_op (o_move (v := (.int .i64 (m : Int))) e16_0 ?_)
          refine s_op (o_sub (a := (m : Int)) (b := 1) rfl rfl (w64 (by omega) (by omega)) ?_)
          refine s_op (o_assign (v := (.int .i64 ((m : Int) - 1))) rfl ?_)
          refine s_nil ?_
          refine t_norm (hK39 _ _ ?_)
          refine wp_block ?_
          let I41 : Nat → (Nat → Value) → World → Prop := fun n__ r__ w__ => ∃ (j : Nat) (i : Int) (vc : Value) (hs2 : List Hp) (lc : List UInt8), n__ = j + 1 ∧ Has E w__ [hs2, R] ∧ (j ≤ m) ∧ (i = (j : Int) - 1) ∧ (Own 5 1 vc lc.length (lc.map bV) hs2) ∧ (lb ++ beFrom x29 m = lc ++ beFrom x29 j) ∧ (lc.length + j ≤ lb.length + m) ∧ r__ 0 = (.int .i64 (m : Int)) ∧ r__ 1 = v ∧ r__ 5 = vc ∧ r__ 7 = (.int .i64 x29) ∧ r__ 8 = (.int .i64 i) ∧ r__ 14 = (.bool (decide (8 < (m : Int)))) ∧ r__ 20 = v ∧ r__ 21 = (.int .i64 ((l.length : Nat) : Int)) ∧ r__ 22 = (.int .i64 (k : Int)) ∧ r__ 23 = (.bool (decide ((k : Int) < ((l.length : Nat) : Int)))) ∧ r__ 29 = (.bool (!(fitsS x29 m)))
          refine c_loop I41 _ ⟨m, ((m : Int) - 1), vb, hs, lb, rfl, hH34, Nat.le_refl _, rfl, hob, rfl, (by omega), e16_0, e16_1, e16_5, rfl, rfl, e16_14, e16_20, e16_21, e16_22, rfl, rfl⟩ ?_
          rintro n_ r44 w42 ⟨j, i, vc, hs2, lc, rfl, hH43, hj, hi, hoc, hpart, hlen2, e40_0, e40_1, e40_5, e40_7, e40_8, e40_14, e40_20, e40_21, e40_22, e40_23, e40_29⟩
          refine wp_seq_k fun K45 hK45 => ?_
          refine wp_seq_k fun K46 hK46 => ?_
          refine c_region ?_
          refine s_op (o_move (v := (.int .i64 i)) e40_8 ?_)
          refine s_op (o_geq (a := i) (b := 0) rfl rfl ?_)
          refine s_nil ?_
          refine t_norm (hK46 _ _ ?_)
          refine c_cond rfl (fun h47 => ?_) (fun h47 => ?_)
          · -- 0 ≤ i
            refine wp_skip ?_
            refine t_norm (hK45 _ _ ?_)
            refine wp_seq_k fun K48 hK48 => ?_
            refine wp_block ?_
            refine c_region ?_
            refine s_op (o_move (v := vc) e40_5 ?_)
            refine s_op (o_move (v := (.int .i64 x29)) e40_7 ?_)
            refine s_op (o_move (v := (.int .i64 i)) e40_8 ?_)
            refine s_op (o_mul (a := 8) (b := i) rfl rfl (w64 (by omega) (by omega)) ?_)
            refine s_op (o_shr (c := Int.fdiv x29 (2 ^ (min (8 * i).toNat 64))) rfl rfl (by omega) rfl ?_)
            refine s_op (o_conv (c := ((by8 (Int.fdiv x29 (2 ^ (min (8 * i).toNat 64)))).toNat : Int)) Tryz.underlying3 Tryz.underlying5 rfl (wrap_by8 _) ?_)
            refine s_op (o_buildSlice (ps := #[(0, (bV (by8 (Int.fdiv x29 (2 ^ (min (8 * i).toNat 64))))))]) (cells := #[(bV (by8 (Int.fdiv x29 (2 ^ (min (8 * i).toNat 64)))))]) Tryz.underlying54 ti5 (by decide) (parts1 rfl) (by kernel_rfl) hH43 fun b49 w50 hH51 => ?_)
            refine s_op (o_append Tryz.underlying54 ti5 rfl (by decide) rfl hoc rfl (sl_lit (f := bV) (l := [(by8 (Int.fdiv x29 (2 ^ (min (8 * i).toNat 64))))]) rfl rfl (by simp)) (hH51.front 1 rfl) (seg_sub 0 rfl) (one_bV _) (by simp; omega) (by simp; omega) fun v52 s53 w55 ho54 hH56 => ?_)
            have ho54 : Own 5 1 v52 (lc ++ [(by8 (Int.fdiv x29 (2 ^ (min (8 * i).toNat 64))))]).length ((lc ++ [(by8 (Int.fdiv x29 (2 ^ (min (8 * i).toNat 64))))]).map bV) s53 := ho54.app
            refine s_op (o_assign (v := v52) rfl ?_)
            refine s_nil ?_
            refine b_norm ?_
            refine t_norm (hK48 _ _ ?_)
            refine c_region ?_
            refine s_op (o_move (v := (.int .i64 i)) e40_8 ?_)
            refine s_op (o_sub (a := i) (b := 1) rfl rfl (w64 (by omega) (by omega)) ?_)
            refine s_op (o_assign (v := (.int .i64 (i - 1))) rfl ?_)
            refine s_nil ?_
            have hH57 : Has E w55 [s53, R] := ((hH56.front 2 rfl).front 1 rfl).first 2 rfl
            refine t_norm ⟨(j - 1) + 1, _, rfl, ?_, ?_⟩
            · omega
            · exact ⟨(j - 1), (i - 1), v52, s53, (lc ++ [(by8 (Int.fdiv x29 (2 ^ (min (8 * i).toNat 64))))]), rfl, hH57, (by omega), (by omega), (ho54), (by rw [hpart, beFrom_pred (by omega), hi, by8_shift _ (by omega) (by omega)]; simp [List.append_assoc]), (by simp; omega), e40_0, e40_1, rfl, e40_7, rfl, e40_14, e40_20, e40_21, e40_22, e40_23, e40_29⟩
          · -- not: 0 ≤ i
            refine wp_exit ?_
            refine t_exit (t_exit (x_in (?_)))
            refine b_norm ?_
            refine t_norm (hK24 _ _ ?_)
            refine c_region ?_
            refine s_op (o_add (a := (k : Int)) (b := 1) e40_22 rfl (w64 (by omega) (by omega)) ?_)
            refine s_op (o_move (v := (.int .i64 ((k : Int) + 1))) rfl ?_)
            refine s_nil ?_
            refine t_norm ⟨l.length - (k + 1), _, rfl, ?_, ?_⟩
            · omega
            · exact ⟨(k + 1), vc, hs2, lc, rfl, hH43, (by omega), (hoc), (by (have e : j = 0 := by omega); rw [e] at hpart; rw [take_succ_of (by simpa using hx30), List.flatMap_append, ← hlb]; simpa [beFrom] using hpart.symm), (by rw [take_succ_of (by simpa using hx30)]; exact fun x hx => (List.mem_append.1 hx).elim (hfit x) (fun h => by simp at h; subst h; simpa using h36)), (by omega), e40_0, e40_1, e40_5, e40_14, e40_20, e40_21, rfl⟩
      · -- not: (k : Int) < ((l.length : Nat) : Int)
        refine wp_exit ?_
        refine t_exit (t_exit (x_in (?_)))
        refine t_norm (hK14 _ _ ?_)
        refine wp_seq_k fun K58 hK58 => ?_
        refine c_region ?_
        refine s_op (o_move (v := vb) e16_5 ?_)
        refine s_op (o_bstr Tryz.underlying54 Tryz.underlying5 Tryz.underlying9 rfl hob.sl hH19 (seg_sub 0 rfl) ?_)
        refine s_op (o_assign (v := (S lb)) rfl ?_)
        refine s_nil ?_
        refine t_norm (hK58 _ _ ?_)
        refine wp_ret ?_
        refine c_ret1 Tryz.results121  (v := (S lb)) rfl ?_
        have hH59 : Has E w18 [R] := (hH19.front 1 rfl).first 1 rfl
        have e : k = l.length := by omega
        subst e
        rw [List.take_of_length_le (Nat.le_refl _)] at hlb hfit
        exact ⟨by rw [putS_yes (by omega) (by omega) hfit, hlb], hH59⟩
set_option maxHeartbeats 4000000 in
theorem take_c {E w : World} {R : List Hp} (hH : Has E w [R]) (m : Nat) (s : List UInt8) (hsl : s.length ≤ 9223372036854775807) :
    Calls Tryz.prog 106 #[(S s), (.int .i64 (m : Int))] w fun e w' => e = .returned (.tuple #[.int .i64 (takeS s m).1, S (takeS s m).2.1, .bool (takeS s m).2.2]) ∧ Has E w' [R] := by
  refine c_enter (args := [(S s), (.int .i64 (m : Int))]) Tryz.func106 rfl Tryz.ntmps106 (by simp) ?_
  refine wp_seq_k fun K1 hK1 => ?_
  refine c_region ?_
  refine s_op (o_assign (v := (.int .i64 0)) rfl ?_)
  refine s_op (o_assign (v := (S ([] : List UInt8))) rfl ?_)
  refine s_op (o_assign (v := (.bool false)) rfl ?_)
  refine s_nil ?_
  refine t_norm (hK1 _ _ ?_)
  refine wp_seq_k fun K2 hK2 => ?_
  refine wp_seq_k fun K3 hK3 => ?_
  refine c_region ?_
  refine s_op (o_move (v := (.int .i64 (m : Int))) rfl ?_)
  refine s_op (o_lss (a := (m : Int)) (b := 1) rfl rfl ?_)
  refine s_op (o_move (v := (.bool (decide ((m : Int) < 1)))) rfl ?_)
  by_cases h4 : (m : Int) < 1
  · -- (m : Int) < 1
    refine s_off (b' := true) 11 rfl (congrArg Value.bool (decide_eq_true h4)) rfl ?_
    refine s_off (b' := true) 11 rfl (congrArg Value.bool (decide_eq_true h4)) rfl ?_
    refine s_op (o_pick_t (u := (.bool true)) ((rfl : _ = _).trans (congrArg Value.bool (decide_eq_true h4))) rfl ?_)
    refine s_op (o_move (v := (.bool true)) rfl ?_)
    refine s_off (b' := true) 15 rfl rfl rfl ?_
    refine s_off (b' := true) 15 rfl rfl rfl ?_
    refine s_off (b' := true) 15 rfl rfl rfl ?_
    refine s_off (b' := true) 15 rfl rfl rfl ?_
    refine s_op (o_pick_t (u := (.bool true)) rfl rfl ?_)
    refine s_op (o_move (v := (.bool true)) rfl ?_)
    refine s_off (b' := true) 21 rfl rfl rfl ?_
    refine s_off (b' := true) 21 rfl rfl rfl ?_
    refine s_off (b' := true) 21 rfl rfl rfl ?_
    refine s_offu 24 rfl rfl ?_
    refine s_offu 24 rfl rfl ?_
    refine s_offu 24 rfl rfl ?_
    refine s_off (b' := true) 21 rfl rfl rfl ?_
    refine s_op (o_pick_t (u := (.bool true)) rfl rfl ?_)
    refine s_nil ?_
    refine t_norm (hK3 _ _ ?_)
    refine c_true rfl rfl ?_
    refine wp_seq_k fun K5 hK5 => ?_
    refine c_region ?_
    refine s_op (o_move (v := (S s)) rfl ?_)
    refine s_op (o_assign (v := (.int .i64 0)) rfl ?_)
    refine s_op (o_assign (v := (S s)) rfl ?_)
    refine s_op (o_assign (v := (.bool false)) rfl ?_)
    refine s_nil ?_
    refine t_norm (hK5 _ _ ?_)
    refine wp_ret ?_
    refine t_ret (c_ret3 Tryz.results106  (v := (.int .i64 0)) rfl (x := (S s)) rfl (y := (.bool false)) rfl ?_)
    exact ⟨by rw [takeS_no (by first | exact .inl (by omega) | exact .inr (.inl (by omega)) | exact .inr (.inr ⟨by omega, 0, by simpa using rfl, by omega⟩))], hH⟩
  · -- not: (m : Int) < 1
    refine s_on 11 rfl (congrArg Value.bool (decide_eq_false h4)) (o_move (v := (.int .i64 (m : Int))) rfl ?_)
    refine s_on 11 rfl (congrArg Value.bool (decide_eq_false h4)) (o_gtr (a := (m : Int)) (b := 8) rfl rfl ?_)
    refine s_op (o_pick_f (u := (.bool (decide (8 < (m : Int))))) ((rfl : _ = _).trans (congrArg Value.bool (decide_eq_false h4))) rfl ?_)
    refine s_op (o_move (v := (.bool (decide (8 < (m : Int))))) rfl ?_)
    by_cases h6 : 8 < (m : Int)
    · -- 8 < (m : Int)
      refine s_off (b' := true) 15 rfl (congrArg Value.bool (decide_eq_true h6)) rfl ?_
      refine s_off (b' := true) 15 rfl (congrArg Value.bool (decide_eq_true h6)) rfl ?_
      refine s_off (b' := true) 15 rfl (congrArg Value.bool (decide_eq_true h6)) rfl ?_
      refine s_off (b' := true) 15 rfl (congrArg Value.bool (decide_eq_true h6)) rfl ?_
      refine s_op (o_pick_t (u := (.bool true)) ((rfl : _ = _).trans (congrArg Value.bool (decide_eq_true h6))) rfl ?_)
      refine s_op (o_move (v := (.bool true)) rfl ?_)
      refine s_off (b' := true) 21 rfl rfl rfl ?_
      refine s_off (b' := true) 21 rfl rfl rfl ?_
      refine s_off (b' := true) 21 rfl rfl rfl ?_
      refine s_offu 24 rfl rfl ?_
      refine s_offu 24 rfl rfl ?_
      refine s_offu 24 rfl rfl ?_
      refine s_off (b' := true) 21 rfl rfl rfl ?_
      refine s_op (o_pick_t (u := (.bool true)) rfl rfl ?_)
      refine s_nil ?_
      refine t_norm (hK3 _ _ ?_)
      refine c_true rfl rfl ?_
      refine wp_seq_k fun K7 hK7 => ?_
      refine c_region ?_
      refine s_op (o_move (v := (S s)) rfl ?_)
      refine s_op (o_assign (v := (.int .i64 0)) rfl ?_)
      refine s_op (o_assign (v := (S s)) rfl ?_)
      refine s_op (o_assign (v := (.bool false)) rfl ?_)
      refine s_nil ?_
      refine t_norm (hK7 _ _ ?_)
      refine wp_ret ?_
      refine t_ret (c_ret3 Tryz.results106  (v := (.int .i64 0)) rfl (x := (S s)) rfl (y := (.bool false)) rfl ?_)
      exact ⟨by rw [takeS_no (by first | exact .inl (by omega) | exact .inr (.inl (by omega)) | exact .inr (.inr ⟨by omega, 0, by simpa using rfl, by omega⟩))], hH⟩
    · -- not: 8 < (m : Int)
      refine s_on 15 rfl (congrArg Value.bool (decide_eq_false h6)) (o_move (v := (S s)) rfl ?_)
      refine s_on 15 rfl (congrArg Value.bool (decide_eq_false h6)) (o_slen Tryz.underlying9 rfl ?_)
      refine s_on 15 rfl (congrArg Value.bool (decide_eq_false h6)) (o_move (v := (.int .i64 (m : Int))) rfl ?_)
      refine s_on 15 rfl (congrArg Value.bool (decide_eq_false h6)) (o_lss (a := (s.length : Int)) (b := (m : Int)) rfl rfl ?_)
      refine s_op (o_pick_f (u := (.bool (decide ((s.length : Int) < (m : Int))))) ((rfl : _ = _).trans (congrArg Value.bool (decide_eq_false h6))) rfl ?_)
      refine s_op (o_move (v := (.bool (decide ((s.length : Int) < (m : Int))))) rfl ?_)
      by_cases h8 : (s.length : Int) < (m : Int)
      · -- (s.length : Int) < (m : Int)
        refine s_off (b' := true) 21 rfl (congrArg Value.bool (decide_eq_true h8)) rfl ?_
        refine s_off (b' := true) 21 rfl (congrArg Value.bool (decide_eq_true h8)) rfl ?_
        refine s_off (b' := true) 21 rfl (congrArg Value.bool (decide_eq_true h8)) rfl ?_
        refine s_offu 24 rfl rfl ?_
        refine s_offu 24 rfl rfl ?_
        refine s_offu 24 rfl rfl ?_
        refine s_off (b' := true) 21 rfl (congrArg Value.bool (decide_eq_true h8)) rfl ?_
        refine s_op (o_pick_t (u := (.bool true)) ((rfl : _ = _).trans (congrArg Value.bool (decide_eq_true h8))) rfl ?_)
        refine s_nil ?_
        refine t_norm (hK3 _ _ ?_)
        refine c_true rfl rfl ?_
        refine wp_seq_k fun K9 hK9 => ?_
        refine c_region ?_
        refine s_op (o_move (v := (S s)) rfl ?_)
        refine s_op (o_assign (v := (.int .i64 0)) rfl ?_)
        refine s_op (o_assign (v := (S s)) rfl ?_)
        refine s_op (o_assign (v := (.bool false)) rfl ?_)
        refine s_nil ?_
        refine t_norm (hK9 _ _ ?_)
        refine wp_ret ?_
        refine t_ret (c_ret3 Tryz.results106  (v := (.int .i64 0)) rfl (x := (S s)) rfl (y := (.bool false)) rfl ?_)
        exact ⟨by rw [takeS_no (by first | exact .inl (by omega) | exact .inr (.inl (by omega)) | exact .inr (.inr ⟨by omega, 0, by simpa using rfl, by omega⟩))], hH⟩
      · -- not: (s.length : Int) < (m : Int)
        refine s_on 21 rfl (congrArg Value.bool (decide_eq_false h8)) (o_move (v := (.int .i64 (m : Int))) rfl ?_)
        refine s_on 21 rfl (congrArg Value.bool (decide_eq_false h8)) (o_eql (a := (m : Int)) (b := 8) rfl rfl ?_)
        refine s_on 21 rfl (congrArg Value.bool (decide_eq_false h8)) (o_move (v := (.bool (decide ((m : Int) = 8)))) rfl ?_)
        by_cases h10 : (m : Int) = 8
        · -- (m : Int) = 8
          refine s_on 24 rfl (congrArg Value.bool (decide_eq_true h10)) (o_move (v := (S s)) rfl ?_)
          obtain ⟨c11, hx12⟩ : ∃ x_, s[((0 : Int)).toNat]? = some x_ := get_some (by omega)
          have c11_lt := c11.toNat_lt
          refine s_on 24 rfl (congrArg Value.bool (decide_eq_true h10)) (o_sidx Tryz.underlying9 rfl rfl (by omega) hx12 ?_)
          refine s_on 24 rfl (congrArg Value.bool (decide_eq_true h10)) (o_gtr (a := (c11.toNat : Int)) (b := 127) rfl rfl ?_)
          refine s_on 21 rfl (congrArg Value.bool (decide_eq_false h8)) (o_pick_t (u := (.bool (decide (127 < (c11.toNat : Int))))) ((rfl : _ = _).trans (congrArg Value.bool (decide_eq_true h10))) rfl ?_)
          refine s_op (o_pick_f (u := (.bool (decide (127 < (c11.toNat : Int))))) ((rfl : _ = _).trans (congrArg Value.bool (decide_eq_false h8))) rfl ?_)
          refine s_nil ?_
          refine t_norm (hK3 _ _ ?_)
          refine c_cond rfl (fun h13 => ?_) (fun h13 => ?_)
          · -- 127 < (c11.toNat : Int)
            refine wp_seq_k fun K14 hK14 => ?_
            refine c_region ?_
            refine s_op (o_move (v := (S s)) rfl ?_)
            refine s_op (o_assign (v := (.int .i64 0)) rfl ?_)
            refine s_op (o_assign (v := (S s)) rfl ?_)
            refine s_op (o_assign (v := (.bool false)) rfl ?_)
            refine s_nil ?_
            refine t_norm (hK14 _ _ ?_)
            refine wp_ret ?_
            refine t_ret (c_ret3 Tryz.results106  (v := (.int .i64 0)) rfl (x := (S s)) rfl (y := (.bool false)) rfl ?_)
            exact ⟨by rw [takeS_no (by first | exact .inl (by omega) | exact .inr (.inl (by omega)) | exact .inr (.inr ⟨by omega, c11, by simpa using hx12, by omega⟩))], hH⟩
          · -- not: 127 < (c11.toNat : Int)
            refine wp_skip ?_
            refine t_norm (hK2 _ _ ?_)
            refine wp_seq_k fun K15 hK15 => ?_
            refine c_region ?_
            refine s_op (o_assign (v := (.int .i64 0)) rfl ?_)
            refine s_nil ?_
            refine t_norm (hK15 _ _ ?_)
            refine wp_seq_k fun K16 hK16 => ?_
            refine wp_seq_k fun K17 hK17 => ?_
            refine c_region ?_
            refine s_op (o_move (v := (.int .i64 (m : Int))) rfl ?_)
            refine s_op (o_move (v := (.int .i64 0)) rfl ?_)
            refine s_nil ?_
            refine t_norm (hK17 _ _ ?_)
            refine wp_block ?_
            let I19 : Nat → (Nat → Value) → World → Prop := fun n__ r__ w__ => ∃ (i : Nat) (y : Int), n__ = m - i ∧ Has E w__ [R] ∧ (i ≤ m) ∧ (y = beVal (s.take i)) ∧ r__ 0 = (S s) ∧ r__ 1 = (.int .i64 (m : Int)) ∧ r__ 4 = (.int .i64 0) ∧ r__ 5 = (S ([] : List UInt8)) ∧ r__ 6 = (.bool false) ∧ r__ 7 = (.int .i64 y) ∧ r__ 29 = (.bool (decide (127 < (c11.toNat : Int)))) ∧ r__ 31 = (.int .i64 (m : Int)) ∧ r__ 32 = (.int .i64 (i : Int))
            refine c_loop I19 _ ⟨0, 0, rfl, hH, Nat.zero_le _, rfl, rfl, rfl, rfl, rfl, rfl, rfl, rfl, rfl, rfl⟩ ?_
            rintro n_ r22 w20 ⟨i, y, rfl, hH21, hi, hy, e18_0, e18_1, e18_4, e18_5, e18_6, e18_7, e18_29, e18_31, e18_32⟩
            have hb0 := beVal_nonneg (s.take i)
            have hb1 : i < m → beVal (s.take i) < 36028797018963968 := fun h => beVal_lt h (by omega) (by omega) (.inr (first_byte (by simpa using hx12) (by omega)))
            refine wp_seq_k fun K23 hK23 => ?_
            refine c_region ?_
            refine s_op (o_lss (a := (i : Int)) (b := (m : Int)) e18_32 e18_31 ?_)
            refine s_nil ?_
            refine t_norm (hK23 _ _ ?_)
            refine wp_seq_k fun K24 hK24 => ?_
            refine c_cond rfl (fun h25 => ?_) (fun h25 => ?_)
            · -- (i : Int) < (m : Int)
              refine wp_skip ?_
              refine t_norm (hK24 _ _ ?_)
              refine wp_seq_k fun K26 hK26 => ?_
              refine wp_block ?_
              refine wp_seq_k fun K27 hK27 => ?_
              refine c_region ?_
              refine s_op (o_move (v := (.int .i64 (i : Int))) e18_32 ?_)
              refine s_op (o_assign (v := (.int .i64 (i : Int))) rfl ?_)
              refine s_nil ?_
              refine t_norm (hK27 _ _ ?_)
              refine c_region ?_
              refine s_op (o_move (v := (.int .i64 y)) e18_7 ?_)
              refine s_op (o_shl (c := y * 256) rfl rfl (by omega) (shl_lit (by omega) (by omega) rfl) ?_)
              refine s_op (o_move (v := (S s)) e18_0 ?_)
              refine s_op (o_move (v := (.int .i64 (i : Int))) rfl ?_)
              obtain ⟨c28, hx29⟩ : ∃ x_, s[((i : Int)).toNat]? = some x_ := get_some (by omega)
              have c28_lt := c28.toNat_lt
              refine s_op (o_sidx Tryz.underlying9 rfl rfl (by omega) hx29 ?_)
              refine s_op (o_conv Tryz.underlying5 Tryz.underlying3 rfl (w_u8 _) ?_)
              refine s_op (o_or (c := y * 256 + (c28.toNat : Int)) rfl rfl (or8 (by omega) (by omega) _) ?_)
              refine s_op (o_assign (v := (.int .i64 (y * 256 + (c28.toNat : Int)))) rfl ?_)
              refine s_nil ?_
              refine b_norm ?_
              refine t_norm (hK26 _ _ ?_)
              refine c_region ?_
              refine s_op (o_add (a := (i : Int)) (b := 1) e18_32 rfl (w64 (by omega) (by omega)) ?_)
              refine s_op (o_move (v := (.int .i64 ((i : Int) + 1))) rfl ?_)
              refine s_nil ?_
              refine t_norm ⟨m - (i + 1), _, rfl, ?_, ?_⟩
              · omega
              · exact ⟨(i + 1), (y * 256 + (c28.toNat : Int)), rfl, hH21, (by omega), (by rw [take_succ_of (by simpa using hx29), beVal_snoc, ← hy]), e18_0, e18_1, e18_4, e18_5, e18_6, rfl, e18_29, e18_31, rfl⟩
            · -- not: (i : Int) < (m : Int)
              refine wp_exit ?_
              refine t_exit (t_exit (x_in (?_)))
              refine t_norm (hK16 _ _ ?_)
              refine wp_seq_k fun K30 hK30 => ?_
              refine Rest.region mixed (by kernel_rfl) ?_
              have hH31 : Has E { w20 with drawn := w20.drawn + 1 } [R] := Has0.drew hH21 _
              refine Rest.phaseA (fun w_ => Has E w_ []) 0 5 5 rfl (by decide) (by kernel_rfl) ?_
              refine a_op 0 rfl (by kernel_rfl) (fun w_ h_ => o_move (v := (.int .i64 y)) e18_7 ⟨rfl, rfl⟩) ?_
              refine a_op 1 rfl (by kernel_rfl) (fun w_ h_ => o_move (v := (S s)) e18_0 ⟨rfl, rfl⟩) ?_
              refine a_op 2 rfl (by kernel_rfl) (fun w_ h_ => o_move (v := (.int .i64 (m : Int))) e18_1 ⟨rfl, rfl⟩) ?_
              refine a_op 3 rfl (by kernel_rfl) (fun w_ h_ => o_ssl_l Tryz.underlying9 rfl rfl (by omega) (by omega) ⟨rfl, rfl⟩) ?_
              refine a_op 4 rfl (by kernel_rfl) (fun w_ h_ => o_assign (v := (.int .i64 y)) rfl ⟨rfl, rfl⟩) ?_
              have hH32 : Has E { w20 with drawn := w20.drawn + 1 } [] := hH31.first 0 rfl
              refine a_done (by kernel_rfl) hH32 ?_
              refine r_op 5 rfl (by kernel_rfl) (o_assign (v := (S (s.drop ((m : Int)).toNat))) rfl ?_)
              refine r_op 6 rfl (by kernel_rfl) (o_assign (v := (.bool true)) rfl ?_)
              refine Rest.done (by kernel_rfl) ?_
              refine t_norm (hK30 _ _ ?_)
              refine wp_ret ?_
              refine c_ret3 Tryz.results106  (v := (.int .i64 y)) rfl (x := (S (s.drop ((m : Int)).toNat))) rfl (y := (.bool true)) rfl ?_
              have e : i = m := by omega
              rw [e] at hy
              exact ⟨by rw [takeS_yes (by omega) (by omega) (by omega) (.inr (first_byte (by simpa using hx12) (by omega))), hy]; rfl, hH31⟩
        · -- not: (m : Int) = 8
          refine s_off (b' := false) 24 rfl (congrArg Value.bool (decide_eq_false h10)) rfl ?_
          refine s_off (b' := false) 24 rfl (congrArg Value.bool (decide_eq_false h10)) rfl ?_
          refine s_off (b' := false) 24 rfl (congrArg Value.bool (decide_eq_false h10)) rfl ?_
          refine s_on 21 rfl (congrArg Value.bool (decide_eq_false h8)) (o_pick_f (u := (.bool false)) ((rfl : _ = _).trans (congrArg Value.bool (decide_eq_false h10))) rfl ?_)
          refine s_op (o_pick_f (u := (.bool false)) ((rfl : _ = _).trans (congrArg Value.bool (decide_eq_false h8))) rfl ?_)
          refine s_nil ?_
          refine t_norm (hK3 _ _ ?_)
          refine c_false rfl rfl ?_
          refine wp_skip ?_
          refine t_norm (hK2 _ _ ?_)
          refine wp_seq_k fun K33 hK33 => ?_
          refine c_region ?_
          refine s_op (o_assign (v := (.int .i64 0)) rfl ?_)
          refine s_nil ?_
          refine t_norm (hK33 _ _ ?_)
          refine wp_seq_k fun K34 hK34 => ?_
          refine wp_seq_k fun K35 hK35 => ?_
          refine c_region ?_
          refine s_op (o_move (v := (.int .i64 (m : Int))) rfl ?_)
          refine s_op (o_move (v := (.int .i64 0)) rfl ?_)
          refine s_nil ?_
          refine t_norm (hK35 _ _ ?_)
          refine wp_block ?_
          let I37 : Nat → (Nat → Value) → World → Prop := fun n__ r__ w__ => ∃ (i : Nat) (y : Int), n__ = m - i ∧ Has E w__ [R] ∧ (i ≤ m) ∧ (y = beVal (s.take i)) ∧ r__ 0 = (S s) ∧ r__ 1 = (.int .i64 (m : Int)) ∧ r__ 4 = (.int .i64 0) ∧ r__ 5 = (S ([] : List UInt8)) ∧ r__ 6 = (.bool false) ∧ r__ 7 = (.int .i64 y) ∧ r__ 29 = (.bool false) ∧ r__ 31 = (.int .i64 (m : Int)) ∧ r__ 32 = (.int .i64 (i : Int))
          refine c_loop I37 _ ⟨0, 0, rfl, hH, Nat.zero_le _, rfl, rfl, rfl, rfl, rfl, rfl, rfl, rfl, rfl, rfl⟩ ?_
          rintro n_ r40 w38 ⟨i, y, rfl, hH39, hi, hy, e36_0, e36_1, e36_4, e36_5, e36_6, e36_7, e36_29, e36_31, e36_32⟩
          have hb0 := beVal_nonneg (s.take i)
          have hb1 : i < m → beVal (s.take i) < 36028797018963968 := fun h => beVal_lt h (by omega) (by omega) (.inl (by omega))
          refine wp_seq_k fun K41 hK41 => ?_
          refine c_region ?_
          refine s_op (o_lss (a := (i : Int)) (b := (m : Int)) e36_32 e36_31 ?_)
          refine s_nil ?_
          refine t_norm (hK41 _ _ ?_)
          refine wp_seq_k fun K42 hK42 => ?_
          refine c_cond rfl (fun h43 => ?_) (fun h43 => ?_)
          · -- (i : Int) < (m : Int)
            refine wp_skip ?_
            refine t_norm (hK42 _ _ ?_)
            refine wp_seq_k fun K44 hK44 => ?_
            refine wp_block ?_
            refine wp_seq_k fun K45 hK45 => ?_
            refine c_region ?_
            refine s_op (o_move (v := (.int .i64 (i : Int))) e36_32 ?_)
            refine s_op (o_assign (v := (.int .i64 (i : Int))) rfl ?_)
            refine s_nil ?_
            refine t_norm (hK45 _ _ ?_)
            refine c_region ?_
            refine s_op (o_move (v := (.int .i64 y)) e36_7 ?_)
            refine s_op (o_shl (c := y * 256) rfl rfl (by omega) (shl_lit (by omega) (by omega) rfl) ?_)
            refine s_op (o_move (v := (S s)) e36_0 ?_)
            refine s_op (o_move (v := (.int .i64 (i : Int))) rfl ?_)
            obtain ⟨c46, hx47⟩ : ∃ x_, s[((i : Int)).toNat]? = some x_ := get_some (by omega)
            have c46_lt := c46.toNat_lt
            refine s_op (o_sidx Tryz.underlying9 rfl rfl (by omega) hx47 ?_)
            refine s_op (o_conv Tryz.underlying5 Tryz.underlying3 rfl (w_u8 _) ?_)
            refine s_op (o_or (c := y * 256 + (c46.toNat : Int)) rfl rfl (or8 (by omega) (by omega) _) ?_)
            refine s_op (o_assign (v := (.int .i64 (y * 256 + (c46.toNat : Int)))) rfl ?_)
            refine s_nil ?_
            refine b_norm ?_
            refine t_norm (hK44 _ _ ?_)
            refine c_region ?_
            refine s_op (o_add (a := (i : Int)) (b := 1) e36_32 rfl (w64 (by omega) (by omega)) ?_)
            refine s_op (o_move (v := (.int .i64 ((i : Int) + 1))) rfl ?_)
            refine s_nil ?_
            refine t_norm ⟨m - (i + 1), _, rfl, ?_, ?_⟩
            · omega
            · exact ⟨(i + 1), (y * 256 + (c46.toNat : Int)), rfl, hH39, (by omega), (by rw [take_succ_of (by simpa using hx47), beVal_snoc, ← hy]), e36_0, e36_1, e36_4, e36_5, e36_6, rfl, e36_29, e36_31, rfl⟩
          · -- not: (i : Int) < (m : Int)
            refine wp_exit ?_
            refine t_exit (t_exit (x_in (?_)))
            refine t_norm (hK34 _ _ ?_)
            refine wp_seq_k fun K48 hK48 => ?_
            refine Rest.region mixed (by kernel_rfl) ?_
            have hH49 : Has E { w38 with drawn := w38.drawn + 1 } [R] := Has0.drew hH39 _
            refine Rest.phaseA (fun w_ => Has E w_ []) 0 5 5 rfl (by decide) (by kernel_rfl) ?_
            refine a_op 0 rfl (by kernel_rfl) (fun w_ h_ => o_move (v := (.int .i64 y)) e36_7 ⟨rfl, rfl⟩) ?_
            refine a_op 1 rfl (by kernel_rfl) (fun w_ h_ => o_move (v := (S s)) e36_0 ⟨rfl, rfl⟩) ?_
            refine a_op 2 rfl (by kernel_rfl) (fun w_ h_ => o_move (v := (.int .i64 (m : Int))) e36_1 ⟨rfl, rfl⟩) ?_
            refine a_op 3 rfl (by kernel_rfl) (fun w_ h_ => o_ssl_l Tryz.underlying9 rfl rfl (by omega) (by omega) ⟨rfl, rfl⟩) ?_
            refine a_op 4 rfl (by kernel_rfl) (fun w_ h_ => o_assign (v := (.int .i64 y)) rfl ⟨rfl, rfl⟩) ?_
            have hH50 : Has E { w38 with drawn := w38.drawn + 1 } [] := hH49.first 0 rfl
            refine a_done (by kernel_rfl) hH50 ?_
            refine r_op 5 rfl (by kernel_rfl) (o_assign (v := (S (s.drop ((m : Int)).toNat))) rfl ?_)
            refine r_op 6 rfl (by kernel_rfl) (o_assign (v := (.bool true)) rfl ?_)
            refine Rest.done (by kernel_rfl) ?_
            refine t_norm (hK48 _ _ ?_)
            refine wp_ret ?_
            refine c_ret3 Tryz.results106  (v := (.int .i64 y)) rfl (x := (S (s.drop ((m : Int)).toNat))) rfl (y := (.bool true)) rfl ?_
            have e : i = m := by omega
            rw [e] at hy
            exact ⟨by rw [takeS_yes (by omega) (by omega) (by omega) (.inl (by omega)), hy]; rfl, hH49⟩
end Go.Q
namespace Go.Q
section rounds
variable {P : Program} {Q : Exit → Act → World → Prop} {w : World} {N : Nat} {r : Nat → Value} {c : Code}
theorem u_loop (n : Nat) (h : Code.rounds P c Q n (fr N r) w) : (Code.loop c).wp P Q (fr N r) w := wp_loop_rounds n h
theorem u_round {m : Nat} (h : c.wp P (Exit.then (Code.rounds P c Q m) Q) (fr N r) w) : Code.rounds P c Q (m + 1) (fr N r) w := h
end rounds
end Go.Q
namespace Go.Q
open Go.Proofs
set_option linter.unusedVariables false
set_option maxRecDepth 100000
attribute [local irreducible] wpList OK Code.wp
set_option maxHeartbeats 4000000 in
theorem tset_c {E w : World} {R sg : List Hp} {pb db tb : Nat} {d : Dv} {n : Int} (hH : Has E w [sg, [Hp.one pb (.cells #[(.bool d.p.off), (.bool d.p.armed), (.int .i64 d.p.left), (.int .i64 d.p.uses)] 101 (0, 0))], [Hp.one tb (.cells #[(.pointer (some ⟨db, 0, none⟩)), (.int .i64 n)] 98 (0, 0))], R]) (hd : DevAt pb sg db d.la d.lo) {k : Nat} (hf : Few d.p k) (hk : k ≤ 900000) (hlk : LoOk d.lo d.la.length) (h4 : d.la.length ≤ 4096) {x : Int} (hx : 0 ≤ x ∧ x ≤ 4096) {s : Bs} (hs : s.length = 256) :
    Calls Tryz.prog 97 #[(.pointer (some ⟨tb, 0, none⟩)), (.int .i64 x), (S s)] w fun e w' => ∃ sg', e = .returned (.int .i64 (wrsy d (setT x s)).1) ∧ DevAt pb sg' db (wrsy d (setT x s)).2.la (wrsy d (setT x s)).2.lo ∧ Has E w' [sg', [Hp.one pb (.cells #[(.bool ((wrsy d (setT x s)).2).p.off), (.bool ((wrsy d (setT x s)).2).p.armed), (.int .i64 ((wrsy d (setT x s)).2).p.left), (.int .i64 ((wrsy d (setT x s)).2).p.uses)] 101 (0, 0))], [Hp.one tb (.cells #[(.pointer (some ⟨db, 0, none⟩)), (.int .i64 n)] 98 (0, 0))], R] := by
  refine c_enter (args := [(.pointer (some ⟨tb, 0, none⟩)), (.int .i64 x), (S s)]) Tryz.func97 rfl Tryz.ntmps97 (by simp) ?_
  refine wp_seq_k fun K1 hK1 => ?_
  refine c_region ?_
  refine s_op (o_assign (v := (.int .i64 0)) rfl ?_)
  refine s_nil ?_
  refine t_norm (hK1 _ _ ?_)
  refine wp_seq_k fun K2 hK2 => ?_
  refine wp_seq_k fun K3 hK3 => ?_
  refine c_region ?_
  refine s_op (o_move (v := (.int .i64 0)) rfl ?_)
  refine s_nil ?_
  refine t_norm (hK3 _ _ ?_)
  refine wp_block ?_
  refine u_loop 5 (u_round ?_)
  refine wp_seq_k fun K4 hK4 => ?_
  refine c_region ?_
  refine s_op (o_lss (a := 0) (b := 4) rfl rfl ?_)
  refine s_nil ?_
  refine t_norm (hK4 _ _ ?_)
  refine wp_seq_k fun K5 hK5 => ?_
  refine c_true rfl rfl ?_
  refine wp_skip ?_
  refine t_norm (hK5 _ _ ?_)
  refine wp_seq_k fun K6 hK6 => ?_
  refine wp_block ?_
  refine wp_seq_k fun K7 hK7 => ?_
  refine c_region ?_
  refine s_op (o_move (v := (.int .i64 0)) rfl ?_)
  refine s_op (o_assign (v := (.int .i64 0)) rfl ?_)
  refine s_nil ?_
  refine t_norm (hK7 _ _ ?_)
  refine wp_seq_k fun K8 hK8 => ?_
  refine Rest.region mixed (by kernel_rfl) ?_
  have hH9 : Has E { w with drawn := w.drawn + 1 } [sg, [Hp.one pb (.cells #[(.bool d.p.off), (.bool d.p.armed), (.int .i64 d.p.left), (.int .i64 d.p.uses)] 101 (0, 0))], [Hp.one tb (.cells #[(.pointer (some ⟨db, 0, none⟩)), (.int .i64 n)] 98 (0, 0))], R] := Has0.drew hH _
  refine Rest.phaseA (fun w_ => Has E w_ [[Hp.one tb (.cells #[(.pointer (some ⟨db, 0, none⟩)), (.int .i64 n)] 98 (0, 0))]]) 0 15 15 rfl (by decide) (by kernel_rfl) ?_
  refine a_op 0 rfl (by kernel_rfl) (fun w_ h_ => o_move (v := (.pointer (some ⟨tb, 0, none⟩))) rfl ⟨rfl, rfl⟩) ?_
  refine a_op 1 rfl (by kernel_rfl) (fun w_ h_ => o_nilCheck rfl ⟨rfl, rfl⟩) ?_
  refine a_op 2 rfl (by kernel_rfl) (fun w_ h_ => o_fieldAddr (k := 0) (fun _ => by kernel_rfl) rfl ⟨rfl, rfl⟩) ?_
  refine a_op 3 rfl (by kernel_rfl) (fun w_ h_ => o_load1 (v := (.pointer (some ⟨db, 0, none⟩))) Tryz.underlying29 rfl rfl h_ (seg_sub 0 rfl) (CellsAt.one rfl) ⟨rfl, rfl⟩) ?_
  refine a_op 4 rfl (by kernel_rfl) (fun w_ h_ => o_move (v := (.int .i64 x)) rfl ⟨rfl, rfl⟩) ?_
  refine a_op 5 rfl (by kernel_rfl) (fun w_ h_ => o_move (v := (.int .i64 0)) rfl ⟨rfl, rfl⟩) ?_
  refine a_op 6 rfl (by kernel_rfl) (fun w_ h_ => o_add (a := x) (b := 0) (c := x) rfl rfl (by rw [Int.add_zero]; exact w64 (by omega) (by omega)) ⟨rfl, rfl⟩) ?_
  refine a_op 7 rfl (by kernel_rfl) (fun w_ h_ => o_move (v := (S s)) rfl ⟨rfl, rfl⟩) ?_
  refine a_op 8 rfl (by kernel_rfl) (fun w_ h_ => o_move (v := (.int .i64 0)) rfl ⟨rfl, rfl⟩) ?_
  refine a_op 9 rfl (by kernel_rfl) (fun w_ h_ => o_mul (a := 0) (b := 64) (c := 0) rfl rfl (by decide) ⟨rfl, rfl⟩) ?_
  refine a_op 10 rfl (by kernel_rfl) (fun w_ h_ => o_move (v := (.int .i64 0)) rfl ⟨rfl, rfl⟩) ?_
  refine a_op 11 rfl (by kernel_rfl) (fun w_ h_ => o_add (a := 0) (b := 1) (c := 1) rfl rfl (by decide) ⟨rfl, rfl⟩) ?_
  refine a_op 12 rfl (by kernel_rfl) (fun w_ h_ => o_mul (a := 1) (b := 64) (c := 64) rfl rfl (by decide) ⟨rfl, rfl⟩) ?_
  refine a_op 13 rfl (by kernel_rfl) (fun w_ h_ => o_ssl Tryz.underlying9 rfl rfl rfl (by omega) (by omega) (by omega) ⟨rfl, rfl⟩) ?_
  have hH10 : Has E { w with drawn := w.drawn + 1 } [[Hp.one tb (.cells #[(.pointer (some ⟨db, 0, none⟩)), (.int .i64 n)] 98 (0, 0))]] := (hH9.front 2 rfl).first 1 rfl
  refine a_w 14 rfl (by kernel_rfl) hH10 (o_buildSlice (ps := #[(0, (S ((s.take 64).drop 0)))]) (cells := #[(S ((s.take 64).drop 0))]) Tryz.underlying102 ti9 (by decide) (parts1 rfl) (by kernel_rfl) hH9 fun b11 w12 hH13 => ?_)
  have hH14 : Has E w12 [[Hp.one tb (.cells #[(.pointer (some ⟨db, 0, none⟩)), (.int .i64 n)] 98 (0, 0))]] := (hH13.front 3 rfl).first 1 rfl
  refine a_done (by kernel_rfl) hH14 ?_
  refine r_op 15 rfl (by kernel_rfl) (o_callf (vs := #[(.pointer (some ⟨db, 0, none⟩)), (.int .i64 x), (.slice (some ⟨b11, 0, none⟩) 1 1)]) ca52 rfl (args3 rfl rfl rfl) (dv_wr (d := d) ((hH13.front 2 rfl).front 2 rfl).all2 hd (hf.ok (by omega)) h4 x (l := [(s.take 64).drop 0]) ((sl_lit (f := sV) (l := [(s.take 64).drop 0]) (g := (0, 0)) (T := 9) rfl rfl (by simp)).mono (seg_sub 0 rfl)) (s := (s.take 64).drop 0) (by simp) (by simp) (by first | (simp only [List.length_drop, List.length_take]; omega) | omega | (simp; done))) ?_)
  rintro _ w19 ⟨sg15, rfl, hd16, hX17⟩
  refine ⟨_, rfl, ?_⟩
  have hH18 : Has E w19 [sg15, [Hp.one pb (.cells #[(.bool (d.wr x ((s.take 64).drop 0)).p.off), (.bool (d.wr x ((s.take 64).drop 0)).p.armed), (.int .i64 (d.wr x ((s.take 64).drop 0)).p.left), (.int .i64 (d.wr x ((s.take 64).drop 0)).p.uses)] 101 (0, 0))], [Hp.one b11 (.cells #[(S ((s.take 64).drop 0))] 9 (0, 0))], [Hp.one tb (.cells #[(.pointer (some ⟨db, 0, none⟩)), (.int .i64 n)] 98 (0, 0))], R] := hX17.of_all2
  refine r_op 16 rfl (by kernel_rfl) (o_assign (v := (.int .i64 (d.wrE x ((s.take 64).drop 0)))) rfl ?_)
  refine Rest.done (by kernel_rfl) ?_
  refine t_norm (hK8 _ _ ?_)
  refine wp_seq_k fun K20 hK20 => ?_
  refine c_region ?_
  refine s_op (o_move (v := (.int .i64 (d.wrE x ((s.take 64).drop 0)))) rfl ?_)
  refine s_op (o_neq (a := d.wrE x ((s.take 64).drop 0)) (b := 0) rfl rfl ?_)
  refine s_nil ?_
  refine t_norm (hK20 _ _ ?_)
  refine c_cond rfl (fun h21 => ?_) (fun h21 => ?_)
  · -- d.wrE x ((s.take 64).drop 0) ≠ 0
    refine wp_seq_k fun K22 hK22 => ?_
    refine c_region ?_
    refine s_op (o_move (v := (.int .i64 (d.wrE x ((s.take 64).drop 0)))) rfl ?_)
    refine s_op (o_assign (v := (.int .i64 (d.wrE x ((s.take 64).drop 0)))) rfl ?_)
    refine s_nil ?_
    refine t_norm (hK22 _ _ ?_)
    refine wp_ret ?_
    refine b_ret (t_ret (t_ret (b_ret (t_ret (c_ret1 Tryz.results97  (v := (.int .i64 (d.wrE x ((s.take 64).drop 0)))) rfl ?_)))))
    have hH23 : Has E w19 [sg15, [Hp.one pb (.cells #[(.bool (d.wr x ((s.take 64).drop 0)).p.off), (.bool (d.wr x ((s.take 64).drop 0)).p.armed), (.int .i64 (d.wr x ((s.take 64).drop 0)).p.left), (.int .i64 (d.wr x ((s.take 64).drop 0)).p.uses)] 101 (0, 0))], [Hp.one tb (.cells #[(.pointer (some ⟨db, 0, none⟩)), (.int .i64 n)] 98 (0, 0))], R] := ((((hH18.front 4 rfl).front 4 rfl).front 3 rfl).front 3 rfl).first 4 rfl
    have hE_ : (wrsy d (setT x s)) = (d.wrE x ((s.take 64).drop 0), (d.wr x ((s.take 64).drop 0))) := by show wrsy d [(x, (s.take 64).drop 0), (x + 1, (s.take 128).drop 64), (x + 2, (s.take 192).drop 128), (x + 3, (s.take 256).drop 192)] = _; rw [wrsy_stop h21]
    exact ⟨_, by rw [hE_], by rw [hE_]; exact hd16, by rw [hE_]; exact hH23⟩
  · -- not: d.wrE x ((s.take 64).drop 0) ≠ 0
    refine wp_skip ?_
    refine b_norm ?_
    refine t_norm (hK6 _ _ ?_)
    refine c_region ?_
    refine s_op (o_add (a := 0) (b := 1) (c := 1) rfl rfl (by decide) ?_)
    refine s_op (o_move (v := (.int .i64 1)) rfl ?_)
    refine s_nil ?_
    refine t_norm (u_round ?_)
    refine wp_seq_k fun K24 hK24 => ?_
    refine c_region ?_
    refine s_op (o_lss (a := 1) (b := 4) rfl rfl ?_)
    refine s_nil ?_
    refine t_norm (hK24 _ _ ?_)
    refine wp_seq_k fun K25 hK25 => ?_
    refine c_true rfl rfl ?_
    refine wp_skip ?_
    refine t_norm (hK25 _ _ ?_)
    refine wp_seq_k fun K26 hK26 => ?_
    refine wp_block ?_
    refine wp_seq_k fun K27 hK27 => ?_
    refine c_region ?_
    refine s_op (o_move (v := (.int .i64 1)) rfl ?_)
    refine s_op (o_assign (v := (.int .i64 1)) rfl ?_)
    refine s_nil ?_
    refine t_norm (hK27 _ _ ?_)
    refine wp_seq_k fun K28 hK28 => ?_
    refine Rest.region mixed (by kernel_rfl) ?_
    have hH29 : Has E { w19 with drawn := w19.drawn + 1 } [sg15, [Hp.one pb (.cells #[(.bool (d.wr x ((s.take 64).drop 0)).p.off), (.bool (d.wr x ((s.take 64).drop 0)).p.armed), (.int .i64 (d.wr x ((s.take 64).drop 0)).p.left), (.int .i64 (d.wr x ((s.take 64).drop 0)).p.uses)] 101 (0, 0))], [Hp.one b11 (.cells #[(S ((s.take 64).drop 0))] 9 (0, 0))], [Hp.one tb (.cells #[(.pointer (some ⟨db, 0, none⟩)), (.int .i64 n)] 98 (0, 0))], R] := Has0.drew hH18 _
    refine Rest.phaseA (fun w_ => Has E w_ [[Hp.one tb (.cells #[(.pointer (some ⟨db, 0, none⟩)), (.int .i64 n)] 98 (0, 0))]]) 0 15 15 rfl (by decide) (by kernel_rfl) ?_
    refine a_op 0 rfl (by kernel_rfl) (fun w_ h_ => o_move (v := (.pointer (some ⟨tb, 0, none⟩))) rfl ⟨rfl, rfl⟩) ?_
    refine a_op 1 rfl (by kernel_rfl) (fun w_ h_ => o_nilCheck rfl ⟨rfl, rfl⟩) ?_
    refine a_op 2 rfl (by kernel_rfl) (fun w_ h_ => o_fieldAddr (k := 0) (fun _ => by kernel_rfl) rfl ⟨rfl, rfl⟩) ?_
    refine a_op 3 rfl (by kernel_rfl) (fun w_ h_ => o_load1 (v := (.pointer (some ⟨db, 0, none⟩))) Tryz.underlying29 rfl rfl h_ (seg_sub 0 rfl) (CellsAt.one rfl) ⟨rfl, rfl⟩) ?_
    refine a_op 4 rfl (by kernel_rfl) (fun w_ h_ => o_move (v := (.int .i64 x)) rfl ⟨rfl, rfl⟩) ?_
    refine a_op 5 rfl (by kernel_rfl) (fun w_ h_ => o_move (v := (.int .i64 1)) rfl ⟨rfl, rfl⟩) ?_
    refine a_op 6 rfl (by kernel_rfl) (fun w_ h_ => o_add (a := x) (b := 1) rfl rfl (w64 (by omega) (by omega)) ⟨rfl, rfl⟩) ?_
    refine a_op 7 rfl (by kernel_rfl) (fun w_ h_ => o_move (v := (S s)) rfl ⟨rfl, rfl⟩) ?_
    refine a_op 8 rfl (by kernel_rfl) (fun w_ h_ => o_move (v := (.int .i64 1)) rfl ⟨rfl, rfl⟩) ?_
    refine a_op 9 rfl (by kernel_rfl) (fun w_ h_ => o_mul (a := 1) (b := 64) (c := 64) rfl rfl (by decide) ⟨rfl, rfl⟩) ?_
    refine a_op 10 rfl (by kernel_rfl) (fun w_ h_ => o_move (v := (.int .i64 1)) rfl ⟨rfl, rfl⟩) ?_
    refine a_op 11 rfl (by kernel_rfl) (fun w_ h_ => o_add (a := 1) (b := 1) (c := 2) rfl rfl (by decide) ⟨rfl, rfl⟩) ?_
    refine a_op 12 rfl (by kernel_rfl) (fun w_ h_ => o_mul (a := 2) (b := 64) (c := 128) rfl rfl (by decide) ⟨rfl, rfl⟩) ?_
    refine a_op 13 rfl (by kernel_rfl) (fun w_ h_ => o_ssl Tryz.underlying9 rfl rfl rfl (by omega) (by omega) (by omega) ⟨rfl, rfl⟩) ?_
    have hH30 : Has E { w19 with drawn := w19.drawn + 1 } [[Hp.one tb (.cells #[(.pointer (some ⟨db, 0, none⟩)), (.int .i64 n)] 98 (0, 0))]] := (hH29.front 3 rfl).first 1 rfl
    refine a_w 14 rfl (by kernel_rfl) hH30 (o_buildSlice (ps := #[(0, (S ((s.take 128).drop 64)))]) (cells := #[(S ((s.take 128).drop 64))]) Tryz.underlying102 ti9 (by decide) (parts1 rfl) (by kernel_rfl) hH29 fun b31 w32 hH33 => ?_)
    have hH34 : Has E w32 [[Hp.one tb (.cells #[(.pointer (some ⟨db, 0, none⟩)), (.int .i64 n)] 98 (0, 0))]] := (hH33.front 4 rfl).first 1 rfl
    refine a_done (by kernel_rfl) hH34 ?_
    refine r_op 15 rfl (by kernel_rfl) (o_callf (vs := #[(.pointer (some ⟨db, 0, none⟩)), (.int .i64 (x + 1)), (.slice (some ⟨b31, 0, none⟩) 1 1)]) ca52 rfl (args3 rfl rfl rfl) (dv_wr (d := (d.wr x ((s.take 64).drop 0))) ((hH33.front 2 rfl).front 2 rfl).all2 hd16 (hf.use.ok (by omega)) h4 (x + 1) (l := [(s.take 128).drop 64]) ((sl_lit (f := sV) (l := [(s.take 128).drop 64]) (g := (0, 0)) (T := 9) rfl rfl (by simp)).mono (seg_sub 0 rfl)) (s := (s.take 128).drop 64) (by simp) (by simp) (by first | (simp only [List.length_drop, List.length_take]; omega) | omega | (simp; done))) ?_)
    rintro _ w39 ⟨sg35, rfl, hd36, hX37⟩
    refine ⟨_, rfl, ?_⟩
    have hH38 : Has E w39 [sg35, [Hp.one pb (.cells #[(.bool ((d.wr x ((s.take 64).drop 0)).wr (x + 1) ((s.take 128).drop 64)).p.off), (.bool ((d.wr x ((s.take 64).drop 0)).wr (x + 1) ((s.take 128).drop 64)).p.armed), (.int .i64 ((d.wr x ((s.take 64).drop 0)).wr (x + 1) ((s.take 128).drop 64)).p.left), (.int .i64 ((d.wr x ((s.take 64).drop 0)).wr (x + 1) ((s.take 128).drop 64)).p.uses)] 101 (0, 0))], [Hp.one b31 (.cells #[(S ((s.take 128).drop 64))] 9 (0, 0))], [Hp.one b11 (.cells #[(S ((s.take 64).drop 0))] 9 (0, 0))], [Hp.one tb (.cells #[(.pointer (some ⟨db, 0, none⟩)), (.int .i64 n)] 98 (0, 0))], R] := hX37.of_all2
    refine r_op 16 rfl (by kernel_rfl) (o_assign (v := (.int .i64 ((d.wr x ((s.take 64).drop 0)).wrE (x + 1) ((s.take 128).drop 64)))) rfl ?_)
    refine Rest.done (by kernel_rfl) ?_
    refine t_norm (hK28 _ _ ?_)
    refine wp_seq_k fun K40 hK40 => ?_
    refine c_region ?_
    refine s_op (o_move (v := (.int .i64 ((d.wr x ((s.take 64).drop 0)).wrE (x + 1) ((s.take 128).drop 64)))) rfl ?_)
    refine s_op (o_neq (a := (d.wr x ((s.take 64).drop 0)).wrE (x + 1) ((s.take 128).drop 64)) (b := 0) rfl rfl ?_)
    refine s_nil ?_
    refine t_norm (hK40 _ _ ?_)
    refine c_cond rfl (fun h41 => ?_) (fun h41 => ?_)
    · -- (d.wr x ((s.take 64).drop 0)).wrE (x + 1) ((s.take 128).drop 64) ≠ 0
      refine wp_seq_k fun K42 hK42 => ?_
      refine c_region ?_
      refine s_op (o_move (v := (.int .i64 ((d.wr x ((s.take 64).drop 0)).wrE (x + 1) ((s.take 128).drop 64)))) rfl ?_)
      refine s_op (o_assign (v := (.int .i64 ((d.wr x ((s.take 64).drop 0)).wrE (x + 1) ((s.take 128).drop 64)))) rfl ?_)
      refine s_nil ?_
      refine t_norm (hK42 _ _ ?_)
      refine wp_ret ?_
      refine b_ret (t_ret (t_ret (b_ret (t_ret (c_ret1 Tryz.results97  (v := (.int .i64 ((d.wr x ((s.take 64).drop 0)).wrE (x + 1) ((s.take 128).drop 64)))) rfl ?_)))))
      have hH43 : Has E w39 [sg35, [Hp.one pb (.cells #[(.bool ((d.wr x ((s.take 64).drop 0)).wr (x + 1) ((s.take 128).drop 64)).p.off), (.bool ((d.wr x ((s.take 64).drop 0)).wr (x + 1) ((s.take 128).drop 64)).p.armed), (.int .i64 ((d.wr x ((s.take 64).drop 0)).wr (x + 1) ((s.take 128).drop 64)).p.left), (.int .i64 ((d.wr x ((s.take 64).drop 0)).wr (x + 1) ((s.take 128).drop 64)).p.uses)] 101 (0, 0))], [Hp.one tb (.cells #[(.pointer (some ⟨db, 0, none⟩)), (.int .i64 n)] 98 (0, 0))], R] := ((((hH38.front 5 rfl).front 5 rfl).front 3 rfl).front 3 rfl).first 4 rfl
      have hE_ : (wrsy d (setT x s)) = ((d.wr x ((s.take 64).drop 0)).wrE (x + 1) ((s.take 128).drop 64), ((d.wr x ((s.take 64).drop 0)).wr (x + 1) ((s.take 128).drop 64))) := by show wrsy d [(x, (s.take 64).drop 0), (x + 1, (s.take 128).drop 64), (x + 2, (s.take 192).drop 128), (x + 3, (s.take 256).drop 192)] = _; rw [wrsy_go (Classical.not_not.1 h21), wrsy_stop h41]
      exact ⟨_, by rw [hE_], by rw [hE_]; exact hd36, by rw [hE_]; exact hH43⟩
    · -- not: (d.wr x ((s.take 64).drop 0)).wrE (x + 1) ((s.take 128).drop 64) ≠ 0
      refine wp_skip ?_
      refine b_norm ?_
      refine t_norm (hK26 _ _ ?_)
      refine c_region ?_
      refine s_op (o_add (a := 1) (b := 1) (c := 2) rfl rfl (by decide) ?_)
      refine s_op (o_move (v := (.int .i64 2)) rfl ?_)
      refine s_nil ?_
      refine t_norm (u_round ?_)
      refine wp_seq_k fun K44 hK44 => ?_
      refine c_region ?_
      refine s_op (o_lss (a := 2) (b := 4) rfl rfl ?_)
      refine s_nil ?_
      refine t_norm (hK44 _ _ ?_)
      refine wp_seq_k fun K45 hK45 => ?_
      refine c_true rfl rfl ?_
      refine wp_skip ?_
      refine t_norm (hK45 _ _ ?_)
      refine wp_seq_k fun K46 hK46 => ?_
      refine wp_block ?_
      refine wp_seq_k fun K47 hK47 => ?_
      refine c_region ?_
      refine s_op (o_move (v := (.int .i64 2)) rfl ?_)
      refine s_op (o_assign (v := (.int .i64 2)) rfl ?_)
      refine s_nil ?_
      refine t_norm (hK47 _ _ ?_)
      refine wp_seq_k fun K48 hK48 => ?_
      refine Rest.region mixed (by kernel_rfl) ?_
      have hH49 : Has E { w39 with drawn := w39.drawn + 1 } [sg35, [Hp.one pb (.cells #[(.bool ((d.wr x ((s.take 64).drop 0)).wr (x + 1) ((s.take 128).drop 64)).p.off), (.bool ((d.wr x ((s.take 64).drop 0)).wr (x + 1) ((s.take 128).drop 64)).p.armed), (.int .i64 ((d.wr x ((s.take 64).drop 0)).wr (x + 1) ((s.take 128).drop 64)).p.left), (.int .i64 ((d.wr x ((s.take 64).drop 0)).wr (x + 1) ((s.take 128).drop 64)).p.uses)] 101 (0, 0))], [Hp.one b31 (.cells #[(S ((s.take 128).drop 64))] 9 (0, 0))], [Hp.one b11 (.cells #[(S ((s.take 64).drop 0))] 9 (0, 0))], [Hp.one tb (.cells #[(.pointer (some ⟨db, 0, none⟩)), (.int .i64 n)] 98 (0, 0))], R] := Has0.drew hH38 _
      refine Rest.phaseA (fun w_ => Has E w_ [[Hp.one tb (.cells #[(.pointer (some ⟨db, 0, none⟩)), (.int .i64 n)] 98 (0, 0))]]) 0 15 15 rfl (by decide) (by kernel_rfl) ?_
      refine a_op 0 rfl (by kernel_rfl) (fun w_ h_ => o_move (v := (.pointer (some ⟨tb, 0, none⟩))) rfl ⟨rfl, rfl⟩) ?_
      refine a_op 1 rfl (by kernel_rfl) (fun w_ h_ => o_nilCheck rfl ⟨rfl, rfl⟩) ?_
      refine a_op 2 rfl (by kernel_rfl) (fun w_ h_ => o_fieldAddr (k := 0) (fun _ => by kernel_rfl) rfl ⟨rfl, rfl⟩) ?_
      refine a_op 3 rfl (by kernel_rfl) (fun w_ h_ => o_load1 (v := (.pointer (some ⟨db, 0, none⟩))) Tryz.underlying29 rfl rfl h_ (seg_sub 0 rfl) (CellsAt.one rfl) ⟨rfl, rfl⟩) ?_
      refine a_op 4 rfl (by kernel_rfl) (fun w_ h_ => o_move (v := (.int .i64 x)) rfl ⟨rfl, rfl⟩) ?_
      refine a_op 5 rfl (by kernel_rfl) (fun w_ h_ => o_move (v := (.int .i64 2)) rfl ⟨rfl, rfl⟩) ?_
      refine a_op 6 rfl (by kernel_rfl) (fun w_ h_ => o_add (a := x) (b := 2) rfl rfl (w64 (by omega) (by omega)) ⟨rfl, rfl⟩) ?_
      refine a_op 7 rfl (by kernel_rfl) (fun w_ h_ => o_move (v := (S s)) rfl ⟨rfl, rfl⟩) ?_
      refine a_op 8 rfl (by kernel_rfl) (fun w_ h_ => o_move (v := (.int .i64 2)) rfl ⟨rfl, rfl⟩) ?_
      refine a_op 9 rfl (by kernel_rfl) (fun w_ h_ => o_mul (a := 2) (b := 64) (c := 128) rfl rfl (by decide) ⟨rfl, rfl⟩) ?_
      refine a_op 10 rfl (by kernel_rfl) (fun w_ h_ => o_move (v := (.int .i64 2)) rfl ⟨rfl, rfl⟩) ?_
      refine a_op 11 rfl (by kernel_rfl) (fun w_ h_ => o_add (a := 2) (b := 1) (c := 3) rfl rfl (by decide) ⟨rfl, rfl⟩) ?_
      refine a_op 12 rfl (by kernel_rfl) (fun w_ h_ => o_mul (a := 3) (b := 64) (c := 192) rfl rfl (by decide) ⟨rfl, rfl⟩) ?_
      refine a_op 13 rfl (by kernel_rfl) (fun w_ h_ => o_ssl Tryz.underlying9 rfl rfl rfl (by omega) (by omega) (by omega) ⟨rfl, rfl⟩) ?_
      have hH50 : Has E { w39 with drawn := w39.drawn + 1 } [[Hp.one tb (.cells #[(.pointer (some ⟨db, 0, none⟩)), (.int .i64 n)] 98 (0, 0))]] := (hH49.front 4 rfl).first 1 rfl
      refine a_w 14 rfl (by kernel_rfl) hH50 (o_buildSlice (ps := #[(0, (S ((s.take 192).drop 128)))]) (cells := #[(S ((s.take 192).drop 128))]) Tryz.underlying102 ti9 (by decide) (parts1 rfl) (by kernel_rfl) hH49 fun b51 w52 hH53 => ?_)
      have hH54 : Has E w52 [[Hp.one tb (.cells #[(.pointer (some ⟨db, 0, none⟩)), (.int .i64 n)] 98 (0, 0))]] := (hH53.front 5 rfl).first 1 rfl
      refine a_done (by kernel_rfl) hH54 ?_
      refine r_op 15 rfl (by kernel_rfl) (o_callf (vs := #[(.pointer (some ⟨db, 0, none⟩)), (.int .i64 (x + 2)), (.slice (some ⟨b51, 0, none⟩) 1 1)]) ca52 rfl (args3 rfl rfl rfl) (dv_wr (d := ((d.wr x ((s.take 64).drop 0)).wr (x + 1) ((s.take 128).drop 64))) ((hH53.front 2 rfl).front 2 rfl).all2 hd36 (hf.use.use.ok (by omega)) h4 (x + 2) (l := [(s.take 192).drop 128]) ((sl_lit (f := sV) (l := [(s.take 192).drop 128]) (g := (0, 0)) (T := 9) rfl rfl (by simp)).mono (seg_sub 0 rfl)) (s := (s.take 192).drop 128) (by simp) (by simp) (by first | (simp only [List.length_drop, List.length_take]; omega) | omega | (simp; done))) ?_)
      rintro _ w59 ⟨sg55, rfl, hd56, hX57⟩
      refine ⟨_, rfl, ?_⟩
      have hH58 : Has E w59 [sg55, [Hp.one pb (.cells #[(.bool (((d.wr x ((s.take 64).drop 0)).wr (x + 1) ((s.take 128).drop 64)).wr (x + 2) ((s.take 192).drop 128)).p.off), (.bool (((d.wr x ((s.take 64).drop 0)).wr (x + 1) ((s.take 128).drop 64)).wr (x + 2) ((s.take 192).drop 128)).p.armed), (.int .i64 (((d.wr x ((s.take 64).drop 0)).wr (x + 1) ((s.take 128).drop 64)).wr (x + 2) ((s.take 192).drop 128)).p.left), (.int .i64 (((d.wr x ((s.take 64).drop 0)).wr (x + 1) ((s.take 128).drop 64)).wr (x + 2) ((s.take 192).drop 128)).p.uses)] 101 (0, 0))], [Hp.one b51 (.cells #[(S ((s.take 192).drop 128))] 9 (0, 0))], [Hp.one b31 (.cells #[(S ((s.take 128).drop 64))] 9 (0, 0))], [Hp.one b11 (.cells #[(S ((s.take 64).drop 0))] 9 (0, 0))], [Hp.one tb (.cells #[(.pointer (some ⟨db, 0, none⟩)), (.int .i64 n)] 98 (0, 0))], R] := hX57.of_all2
      refine r_op 16 rfl (by kernel_rfl) (o_assign (v := (.int .i64 (((d.wr x ((s.take 64).drop 0)).wr (x + 1) ((s.take 128).drop 64)).wrE (x + 2) ((s.take 192).drop 128)))) rfl ?_)
      refine Rest.done (by kernel_rfl) ?_
      refine t_norm (hK48 _ _ ?_)
      refine wp_seq_k fun K60 hK60 => ?_
      refine c_region ?_
      refine s_op (o_move (v := (.int .i64 (((d.wr x ((s.take 64).drop 0)).wr (x + 1) ((s.take 128).drop 64)).wrE (x + 2) ((s.take 192).drop 128)))) rfl ?_)
      refine s_op (o_neq (a := ((d.wr x ((s.take 64).drop 0)).wr (x + 1) ((s.take 128).drop 64)).wrE (x + 2) ((s.take 192).drop 128)) (b := 0) rfl rfl ?_)
      refine s_nil ?_
      refine t_norm (hK60 _ _ ?_)
      refine c_cond rfl (fun h61 => ?_) (fun h61 => ?_)
      · -- ((d.wr x ((s.take 64).drop 0)).wr (x + 1) ((s.take 128).drop 64)).wrE (x + 2) ((s.take 192).drop 128) ≠ 0
        refine wp_seq_k fun K62 hK62 => ?_
        refine c_region ?_
        refine s_op (o_move (v := (.int .i64 (((d.wr x ((s.take 64).drop 0)).wr (x + 1) ((s.take 128).drop 64)).wrE (x + 2) ((s.take 192).drop 128)))) rfl ?_)
        refine s_op (o_assign (v := (.int .i64 (((d.wr x ((s.take 64).drop 0)).wr (x + 1) ((s.take 128).drop 64)).wrE (x + 2) ((s.take 192).drop 128)))) rfl ?_)
        refine s_nil ?_
        refine t_norm (hK62 _ _ ?_)
        refine wp_ret ?_
        refine b_ret (t_ret (t_ret (b_ret (t_ret (c_ret1 Tryz.results97  (v := (.int .i64 (((d.wr x ((s.take 64).drop 0)).wr (x + 1) ((s.take 128).drop 64)).wrE (x + 2) ((s.take 192).drop 128)))) rfl ?_)))))
        have hH63 : Has E w59 [sg55, [Hp.one pb (.cells #[(.bool (((d.wr x ((s.take 64).drop 0)).wr (x + 1) ((s.take 128).drop 64)).wr (x + 2) ((s.take 192).drop 128)).p.off), (.bool (((d.wr x ((s.take 64).drop 0)).wr (x + 1) ((s.take 128).drop 64)).wr (x + 2) ((s.take 192).drop 128)).p.armed), (.int .i64 (((d.wr x ((s.take 64).drop 0)).wr (x + 1) ((s.take 128).drop 64)).wr (x + 2) ((s.take 192).drop 128)).p.left), (.int .i64 (((d.wr x ((s.take 64).drop 0)).wr (x + 1) ((s.take 128).drop 64)).wr (x + 2) ((s.take 192).drop 128)).p.uses)] 101 (0, 0))], [Hp.one tb (.cells #[(.pointer (some ⟨db, 0, none⟩)), (.int .i64 n)] 98 (0, 0))], R] := ((((hH58.front 6 rfl).front 6 rfl).front 3 rfl).front 3 rfl).first 4 rfl
        have hE_ : (wrsy d (setT x s)) = (((d.wr x ((s.take 64).drop 0)).wr (x + 1) ((s.take 128).drop 64)).wrE (x + 2) ((s.take 192).drop 128), (((d.wr x ((s.take 64).drop 0)).wr (x + 1) ((s.take 128).drop 64)).wr (x + 2) ((s.take 192).drop 128))) := by show wrsy d [(x, (s.take 64).drop 0), (x + 1, (s.take 128).drop 64), (x + 2, (s.take 192).drop 128), (x + 3, (s.take 256).drop 192)] = _; rw [wrsy_go (Classical.not_not.1 h21), wrsy_go (Classical.not_not.1 h41), wrsy_stop h61]
        exact ⟨_, by rw [hE_], by rw [hE_]; exact hd56, by rw [hE_]; exact hH63⟩
      · -- not: ((d.wr x ((s.take 64).drop 0)).wr (x + 1) ((s.take 128).drop 64)).wrE (x + 2) ((s.take 192).drop 128) ≠ 0
        refine wp_skip ?_
        refine b_norm ?_
        refine t_norm (hK46 _ _ ?_)
        refine c_region ?_
        refine s_op (o_add (a := 2) (b := 1) (c := 3) rfl rfl (by decide) ?_)
        refine s_op (o_move (v := (.int .i64 3)) rfl ?_)
        refine s_nil ?_
        refine t_norm (u_round ?_)
        refine wp_seq_k fun K64 hK64 => ?_
        refine c_region ?_
        refine s_op (o_lss (a := 3) (b := 4) rfl rfl ?_)
        refine s_nil ?_
        refine t_norm (hK64 _ _ ?_)
        refine wp_seq_k fun K65 hK65 => ?_
        refine c_true rfl rfl ?_
        refine wp_skip ?_
        refine t_norm (hK65 _ _ ?_)
        refine wp_seq_k fun K66 hK66 => ?_
        refine wp_block ?_
        refine wp_seq_k fun K67 hK67 => ?_
        refine c_region ?_
        refine s_op (o_move (v := (.int .i64 3)) rfl ?_)
        refine s_op (o_assign (v := (.int .i64 3)) rfl ?_)
        refine s_nil ?_
        refine t_norm (hK67 _ _ ?_)
        refine wp_seq_k fun K68 hK68 => ?_
        refine Rest.region mixed (by kernel_rfl) ?_
        have hH69 : Has E { w59 with drawn := w59.drawn + 1 } [sg55, [Hp.one pb (.cells #[(.bool (((d.wr x ((s.take 64).drop 0)).wr (x + 1) ((s.take 128).drop 64)).wr (x + 2) ((s.take 192).drop 128)).p.off), (.bool (((d.wr x ((s.take 64).drop 0)).wr (x + 1) ((s.take 128).drop 64)).wr (x + 2) ((s.take 192).drop 128)).p.armed), (.int .i64 (((d.wr x ((s.take 64).drop 0)).wr (x + 1) ((s.take 128).drop 64)).wr (x + 2) ((s.take 192).drop 128)).p.left), (.int .i64 (((d.wr x ((s.take 64).drop 0)).wr (x + 1) ((s.take 128).drop 64)).wr (x + 2) ((s.take 192).drop 128)).p.uses)] 101 (0, 0))], [Hp.one b51 (.cells #[(S ((s.take 192).drop 128))] 9 (0, 0))], [Hp.one b31 (.cells #[(S ((s.take 128).drop 64))] 9 (0, 0))], [Hp.one b11 (.cells #[(S ((s.take 64).drop 0))] 9 (0, 0))], [Hp.one tb (.cells #[(.pointer (some ⟨db, 0, none⟩)), (.int .i64 n)] 98 (0, 0))], R] := Has0.drew hH58 _
        refine Rest.phaseA (fun w_ => Has E w_ [[Hp.one tb (.cells #[(.pointer (some ⟨db, 0, none⟩)), (.int .i64 n)] 98 (0, 0))]]) 0 15 15 rfl (by decide) (by kernel_rfl) ?_
        refine a_op 0 rfl (by kernel_rfl) (fun w_ h_ => o_move (v := (.pointer (some ⟨tb, 0, none⟩))) rfl ⟨rfl, rfl⟩) ?_
        refine a_op 1 rfl (by kernel_rfl) (fun w_ h_ => o_nilCheck rfl ⟨rfl, rfl⟩) ?_
        refine a_op 2 rfl (by kernel_rfl) (fun w_ h_ => o_fieldAddr (k := 0) (fun _ => by kernel_rfl) rfl ⟨rfl, rfl⟩) ?_
        refine a_op 3 rfl (by kernel_rfl) (fun w_ h_ => o_load1 (v := (.pointer (some ⟨db, 0, none⟩))) Tryz.underlying29 rfl rfl h_ (seg_sub 0 rfl) (CellsAt.one rfl) ⟨rfl, rfl⟩) ?_
        refine a_op 4 rfl (by kernel_rfl) (fun w_ h_ => o_move (v := (.int .i64 x)) rfl ⟨rfl, rfl⟩) ?_
        refine a_op 5 rfl (by kernel_rfl) (fun w_ h_ => o_move (v := (.int .i64 3)) rfl ⟨rfl, rfl⟩) ?_
        refine a_op 6 rfl (by kernel_rfl) (fun w_ h_ => o_add (a := x) (b := 3) rfl rfl (w64 (by omega) (by omega)) ⟨rfl, rfl⟩) ?_
        refine a_op 7 rfl (by kernel_rfl) (fun w_ h_ => o_move (v := (S s)) rfl ⟨rfl, rfl⟩) ?_
        refine a_op 8 rfl (by kernel_rfl) (fun w_ h_ => o_move (v := (.int .i64 3)) rfl ⟨rfl, rfl⟩) ?_
        refine a_op 9 rfl (by kernel_rfl) (fun w_ h_ => o_mul (a := 3) (b := 64) (c := 192) rfl rfl (by decide) ⟨rfl, rfl⟩) ?_
        refine a_op 10 rfl (by kernel_rfl) (fun w_ h_ => o_move (v := (.int .i64 3)) rfl ⟨rfl, rfl⟩) ?_
        refine a_op 11 rfl (by kernel_rfl) (fun w_ h_ => o_add (a := 3) (b := 1) (c := 4) rfl rfl (by decide) ⟨rfl, rfl⟩) ?_
        refine a_op 12 rfl (by kernel_rfl) (fun w_ h_ => o_mul (a := 4) (b := 64) (c := 256) rfl rfl (by decide) ⟨rfl, rfl⟩) ?_
        refine a_op 13 rfl (by kernel_rfl) (fun w_ h_ => o_ssl Tryz.underlying9 rfl rfl rfl (by omega) (by omega) (by omega) ⟨rfl, rfl⟩) ?_
        have hH70 : Has E { w59 with drawn := w59.drawn + 1 } [[Hp.one tb (.cells #[(.pointer (some ⟨db, 0, none⟩)), (.int .i64 n)] 98 (0, 0))]] := (hH69.front 5 rfl).first 1 rfl
        refine a_w 14 rfl (by kernel_rfl) hH70 (o_buildSlice (ps := #[(0, (S ((s.take 256).drop 192)))]) (cells := #[(S ((s.take 256).drop 192))]) Tryz.underlying102 ti9 (by decide) (parts1 rfl) (by kernel_rfl) hH69 fun b71 w72 hH73 => ?_)
        have hH74 : Has E w72 [[Hp.one tb (.cells #[(.pointer (some ⟨db, 0, none⟩)), (.int .i64 n)] 98 (0, 0))]] := (hH73.front 6 rfl).first 1 rfl
        refine a_done (by kernel_rfl) hH74 ?_
        refine r_op 15 rfl (by kernel_rfl) (o_callf (vs := #[(.pointer (some ⟨db, 0, none⟩)), (.int .i64 (x + 3)), (.slice (some ⟨b71, 0, none⟩) 1 1)]) ca52 rfl (args3 rfl rfl rfl) (dv_wr (d := (((d.wr x ((s.take 64).drop 0)).wr (x + 1) ((s.take 128).drop 64)).wr (x + 2) ((s.take 192).drop 128))) ((hH73.front 2 rfl).front 2 rfl).all2 hd56 (hf.use.use.use.ok (by omega)) h4 (x + 3) (l := [(s.take 256).drop 192]) ((sl_lit (f := sV) (l := [(s.take 256).drop 192]) (g := (0, 0)) (T := 9) rfl rfl (by simp)).mono (seg_sub 0 rfl)) (s := (s.take 256).drop 192) (by simp) (by simp) (by first | (simp only [List.length_drop, List.length_take]; omega) | omega | (simp; done))) ?_)
        rintro _ w79 ⟨sg75, rfl, hd76, hX77⟩
        refine ⟨_, rfl, ?_⟩
        have hH78 : Has E w79 [sg75, [Hp.one pb (.cells #[(.bool ((((d.wr x ((s.take 64).drop 0)).wr (x + 1) ((s.take 128).drop 64)).wr (x + 2) ((s.take 192).drop 128)).wr (x + 3) ((s.take 256).drop 192)).p.off), (.bool ((((d.wr x ((s.take 64).drop 0)).wr (x + 1) ((s.take 128).drop 64)).wr (x + 2) ((s.take 192).drop 128)).wr (x + 3) ((s.take 256).drop 192)).p.armed), (.int .i64 ((((d.wr x ((s.take 64).drop 0)).wr (x + 1) ((s.take 128).drop 64)).wr (x + 2) ((s.take 192).drop 128)).wr (x + 3) ((s.take 256).drop 192)).p.left), (.int .i64 ((((d.wr x ((s.take 64).drop 0)).wr (x + 1) ((s.take 128).drop 64)).wr (x + 2) ((s.take 192).drop 128)).wr (x + 3) ((s.take 256).drop 192)).p.uses)] 101 (0, 0))], [Hp.one b71 (.cells #[(S ((s.take 256).drop 192))] 9 (0, 0))], [Hp.one b51 (.cells #[(S ((s.take 192).drop 128))] 9 (0, 0))], [Hp.one b31 (.cells #[(S ((s.take 128).drop 64))] 9 (0, 0))], [Hp.one b11 (.cells #[(S ((s.take 64).drop 0))] 9 (0, 0))], [Hp.one tb (.cells #[(.pointer (some ⟨db, 0, none⟩)), (.int .i64 n)] 98 (0, 0))], R] := hX77.of_all2
        refine r_op 16 rfl (by kernel_rfl) (o_assign (v := (.int .i64 ((((d.wr x ((s.take 64).drop 0)).wr (x + 1) ((s.take 128).drop 64)).wr (x + 2) ((s.take 192).drop 128)).wrE (x + 3) ((s.take 256).drop 192)))) rfl ?_)
        refine Rest.done (by kernel_rfl) ?_
        refine t_norm (hK68 _ _ ?_)
        refine wp_seq_k fun K80 hK80 => ?_
        refine c_region ?_
        refine s_op (o_move (v := (.int .i64 ((((d.wr x ((s.take 64).drop 0)).wr (x + 1) ((s.take 128).drop 64)).wr (x + 2) ((s.take 192).drop 128)).wrE (x + 3) ((s.take 256).drop 192)))) rfl ?_)
        refine s_op (o_neq (a := (((d.wr x ((s.take 64).drop 0)).wr (x + 1) ((s.take 128).drop 64)).wr (x + 2) ((s.take 192).drop 128)).wrE (x + 3) ((s.take 256).drop 192)) (b := 0) rfl rfl ?_)
        refine s_nil ?_
        refine t_norm (hK80 _ _ ?_)
        refine c_cond rfl (fun h81 => ?_) (fun h81 => ?_)
        · -- (((d.wr x ((s.take 64).drop 0)).wr (x + 1) ((s.take 128).drop 64)).wr (x + 2) ((s.take 192).drop 128)).wrE (x + 3) ((s.take 256).drop 192) ≠ 0
          refine wp_seq_k fun K82 hK82 => ?_
          refine c_region ?_
          refine s_op (o_move (v := (.int .i64 ((((d.wr x ((s.take 64).drop 0)).wr (x + 1) ((s.take 128).drop 64)).wr (x + 2) ((s.take 192).drop 128)).wrE (x + 3) ((s.take 256).drop 192)))) rfl ?_)
          refine s_op (o_assign (v := (.int .i64 ((((d.wr x ((s.take 64).drop 0)).wr (x + 1) ((s.take 128).drop 64)).wr (x + 2) ((s.take 192).drop 128)).wrE (x + 3) ((s.take 256).drop 192)))) rfl ?_)
          refine s_nil ?_
          refine t_norm (hK82 _ _ ?_)
          refine wp_ret ?_
          refine b_ret (t_ret (t_ret (b_ret (t_ret (c_ret1 Tryz.results97  (v := (.int .i64 ((((d.wr x ((s.take 64).drop 0)).wr (x + 1) ((s.take 128).drop 64)).wr (x + 2) ((s.take 192).drop 128)).wrE (x + 3) ((s.take 256).drop 192)))) rfl ?_)))))
          have hH83 : Has E w79 [sg75, [Hp.one pb (.cells #[(.bool ((((d.wr x ((s.take 64).drop 0)).wr (x + 1) ((s.take 128).drop 64)).wr (x + 2) ((s.take 192).drop 128)).wr (x + 3) ((s.take 256).drop 192)).p.off), (.bool ((((d.wr x ((s.take 64).drop 0)).wr (x + 1) ((s.take 128).drop 64)).wr (x + 2) ((s.take 192).drop 128)).wr (x + 3) ((s.take 256).drop 192)).p.armed), (.int .i64 ((((d.wr x ((s.take 64).drop 0)).wr (x + 1) ((s.take 128).drop 64)).wr (x + 2) ((s.take 192).drop 128)).wr (x + 3) ((s.take 256).drop 192)).p.left), (.int .i64 ((((d.wr x ((s.take 64).drop 0)).wr (x + 1) ((s.take 128).drop 64)).wr (x + 2) ((s.take 192).drop 128)).wr (x + 3) ((s.take 256).drop 192)).p.uses)] 101 (0, 0))], [Hp.one tb (.cells #[(.pointer (some ⟨db, 0, none⟩)), (.int .i64 n)] 98 (0, 0))], R] := ((((hH78.front 7 rfl).front 7 rfl).front 3 rfl).front 3 rfl).first 4 rfl
          have hE_ : (wrsy d (setT x s)) = ((((d.wr x ((s.take 64).drop 0)).wr (x + 1) ((s.take 128).drop 64)).wr (x + 2) ((s.take 192).drop 128)).wrE (x + 3) ((s.take 256).drop 192), ((((d.wr x ((s.take 64).drop 0)).wr (x + 1) ((s.take 128).drop 64)).wr (x + 2) ((s.take 192).drop 128)).wr (x + 3) ((s.take 256).drop 192))) := by show wrsy d [(x, (s.take 64).drop 0), (x + 1, (s.take 128).drop 64), (x + 2, (s.take 192).drop 128), (x + 3, (s.take 256).drop 192)] = _; rw [wrsy_go (Classical.not_not.1 h21), wrsy_go (Classical.not_not.1 h41), wrsy_go (Classical.not_not.1 h61), wrsy_stop h81]
          exact ⟨_, by rw [hE_], by rw [hE_]; exact hd76, by rw [hE_]; exact hH83⟩
        · -- not: (((d.wr x ((s.take 64).drop 0)).wr (x + 1) ((s.take 128).drop 64)).wr (x + 2) ((s.take 192).drop 128)).wrE (x + 3) ((s.take 256).drop 192) ≠ 0
          refine wp_skip ?_
          refine b_norm ?_
          refine t_norm (hK66 _ _ ?_)
          refine c_region ?_
          refine s_op (o_add (a := 3) (b := 1) (c := 4) rfl rfl (by decide) ?_)
          refine s_op (o_move (v := (.int .i64 4)) rfl ?_)
          refine s_nil ?_
          refine t_norm (u_round ?_)
          refine wp_seq_k fun K84 hK84 => ?_
          refine c_region ?_
          refine s_op (o_lss (a := 4) (b := 4) rfl rfl ?_)
          refine s_nil ?_
          refine t_norm (hK84 _ _ ?_)
          refine wp_seq_k fun K85 hK85 => ?_
          refine c_false rfl rfl ?_
          refine wp_exit ?_
          refine t_exit (t_exit (x_in (?_)))
          refine t_norm (hK2 _ _ ?_)
          refine wp_seq_k fun K86 hK86 => ?_
          refine c_region ?_
          refine s_op (o_move (v := (.pointer (some ⟨tb, 0, none⟩))) rfl ?_)
          refine s_op (o_nilCheck rfl ?_)
          refine s_op (o_fieldAddr (k := 0) (fun _ => by kernel_rfl) rfl ?_)
          refine s_op (o_load1 (v := (.pointer (some ⟨db, 0, none⟩))) Tryz.underlying29 rfl rfl hH78 (seg_sub 6 rfl) (CellsAt.one rfl) ?_)
          refine s_op (o_callf (vs := #[(.pointer (some ⟨db, 0, none⟩))]) ca27 rfl (args1 rfl) (dv_sy (d := ((((d.wr x ((s.take 64).drop 0)).wr (x + 1) ((s.take 128).drop 64)).wr (x + 2) ((s.take 192).drop 128)).wr (x + 3) ((s.take 256).drop 192))) ((hH78.front 1 rfl).front 1 rfl).all2 hd76 (hf.use.use.use.use.ok (by omega)) h4 ((((hlk.write _ _ _).write _ _ _).write _ _ _).write _ _ _)) ?_)
          rintro _ w91 ⟨sg87, rfl, hd88, hX89⟩
          refine ⟨_, rfl, ?_⟩
          have hH90 : Has E w91 [sg87, [Hp.one pb (.cells #[(.bool (((((d.wr x ((s.take 64).drop 0)).wr (x + 1) ((s.take 128).drop 64)).wr (x + 2) ((s.take 192).drop 128)).wr (x + 3) ((s.take 256).drop 192)).sy).p.off), (.bool (((((d.wr x ((s.take 64).drop 0)).wr (x + 1) ((s.take 128).drop 64)).wr (x + 2) ((s.take 192).drop 128)).wr (x + 3) ((s.take 256).drop 192)).sy).p.armed), (.int .i64 (((((d.wr x ((s.take 64).drop 0)).wr (x + 1) ((s.take 128).drop 64)).wr (x + 2) ((s.take 192).drop 128)).wr (x + 3) ((s.take 256).drop 192)).sy).p.left), (.int .i64 (((((d.wr x ((s.take 64).drop 0)).wr (x + 1) ((s.take 128).drop 64)).wr (x + 2) ((s.take 192).drop 128)).wr (x + 3) ((s.take 256).drop 192)).sy).p.uses)] 101 (0, 0))], [Hp.one b71 (.cells #[(S ((s.take 256).drop 192))] 9 (0, 0))], [Hp.one b51 (.cells #[(S ((s.take 192).drop 128))] 9 (0, 0))], [Hp.one b31 (.cells #[(S ((s.take 128).drop 64))] 9 (0, 0))], [Hp.one b11 (.cells #[(S ((s.take 64).drop 0))] 9 (0, 0))], [Hp.one tb (.cells #[(.pointer (some ⟨db, 0, none⟩)), (.int .i64 n)] 98 (0, 0))], R] := hX89.of_all2
          refine s_op (o_assign (v := (.int .i64 (((((d.wr x ((s.take 64).drop 0)).wr (x + 1) ((s.take 128).drop 64)).wr (x + 2) ((s.take 192).drop 128)).wr (x + 3) ((s.take 256).drop 192)).syE))) rfl ?_)
          refine s_nil ?_
          refine t_norm (hK86 _ _ ?_)
          refine wp_ret ?_
          refine c_ret1 Tryz.results97  (v := (.int .i64 (((((d.wr x ((s.take 64).drop 0)).wr (x + 1) ((s.take 128).drop 64)).wr (x + 2) ((s.take 192).drop 128)).wr (x + 3) ((s.take 256).drop 192)).syE))) rfl ?_
          have hH92 : Has E w91 [sg87, [Hp.one pb (.cells #[(.bool (((((d.wr x ((s.take 64).drop 0)).wr (x + 1) ((s.take 128).drop 64)).wr (x + 2) ((s.take 192).drop 128)).wr (x + 3) ((s.take 256).drop 192)).sy).p.off), (.bool (((((d.wr x ((s.take 64).drop 0)).wr (x + 1) ((s.take 128).drop 64)).wr (x + 2) ((s.take 192).drop 128)).wr (x + 3) ((s.take 256).drop 192)).sy).p.armed), (.int .i64 (((((d.wr x ((s.take 64).drop 0)).wr (x + 1) ((s.take 128).drop 64)).wr (x + 2) ((s.take 192).drop 128)).wr (x + 3) ((s.take 256).drop 192)).sy).p.left), (.int .i64 (((((d.wr x ((s.take 64).drop 0)).wr (x + 1) ((s.take 128).drop 64)).wr (x + 2) ((s.take 192).drop 128)).wr (x + 3) ((s.take 256).drop 192)).sy).p.uses)] 101 (0, 0))], [Hp.one tb (.cells #[(.pointer (some ⟨db, 0, none⟩)), (.int .i64 n)] 98 (0, 0))], R] := ((((hH90.front 7 rfl).front 7 rfl).front 3 rfl).front 3 rfl).first 4 rfl
          have hE_ : (wrsy d (setT x s)) = (((((d.wr x ((s.take 64).drop 0)).wr (x + 1) ((s.take 128).drop 64)).wr (x + 2) ((s.take 192).drop 128)).wr (x + 3) ((s.take 256).drop 192)).syE, ((((d.wr x ((s.take 64).drop 0)).wr (x + 1) ((s.take 128).drop 64)).wr (x + 2) ((s.take 192).drop 128)).wr (x + 3) ((s.take 256).drop 192)).sy) := by show wrsy d [(x, (s.take 64).drop 0), (x + 1, (s.take 128).drop 64), (x + 2, (s.take 192).drop 128), (x + 3, (s.take 256).drop 192)] = _; rw [wrsy_go (Classical.not_not.1 h21), wrsy_go (Classical.not_not.1 h41), wrsy_go (Classical.not_not.1 h61), wrsy_go (Classical.not_not.1 h81), wrsy_nil]
          exact ⟨_, by rw [hE_], by rw [hE_]; exact hd88, by rw [hE_]; exact hH92⟩
set_option maxHeartbeats 4000000 in
theorem tmark_c {E w : World} {R sg : List Hp} {pb db tb : Nat} {d : Dv} {n : Int} (hH : Has E w [sg, [Hp.one pb (.cells #[(.bool d.p.off), (.bool d.p.armed), (.int .i64 d.p.left), (.int .i64 d.p.uses)] 101 (0, 0))], [Hp.one tb (.cells #[(.pointer (some ⟨db, 0, none⟩)), (.int .i64 n)] 98 (0, 0))], R]) (hd : DevAt pb sg db d.la d.lo) {k : Nat} (hf : Few d.p k) (hk : k ≤ 900000) (hlk : LoOk d.lo d.la.length) (h4 : d.la.length ≤ 4096) {v : Value} {l : List Int} (hv : Ints R v l) (hl : l.length ≤ 1000) (hpl : (putS 1 l).length ≤ 1000) :
    Calls Tryz.prog 98 #[(.pointer (some ⟨tb, 0, none⟩)), v] w fun e w' => ∃ sg', e = .returned (.int .i64 (wrsy d (mrkG l)).1) ∧ DevAt pb sg' db (wrsy d (mrkG l)).2.la (wrsy d (mrkG l)).2.lo ∧ Has E w' [sg', [Hp.one pb (.cells #[(.bool ((wrsy d (mrkG l)).2).p.off), (.bool ((wrsy d (mrkG l)).2).p.armed), (.int .i64 ((wrsy d (mrkG l)).2).p.left), (.int .i64 ((wrsy d (mrkG l)).2).p.uses)] 101 (0, 0))], [Hp.one tb (.cells #[(.pointer (some ⟨db, 0, none⟩)), (.int .i64 n)] 98 (0, 0))], R] := by
  refine c_enter (args := [(.pointer (some ⟨tb, 0, none⟩)), v]) Tryz.func98 rfl Tryz.ntmps98 (by simp) ?_
  refine wp_seq_k fun K1 hK1 => ?_
  refine c_region ?_
  refine s_op (o_assign (v := (.int .i64 0)) rfl ?_)
  refine s_nil ?_
  refine t_norm (hK1 _ _ ?_)
  refine wp_seq_k fun K2 hK2 => ?_
  refine wp_seq_k fun K3 hK3 => ?_
  refine Rest.region mixed (by kernel_rfl) ?_
  have hH4 : Has E { w with drawn := w.drawn + 1 } [sg, [Hp.one pb (.cells #[(.bool d.p.off), (.bool d.p.armed), (.int .i64 d.p.left), (.int .i64 d.p.uses)] 101 (0, 0))], [Hp.one tb (.cells #[(.pointer (some ⟨db, 0, none⟩)), (.int .i64 n)] 98 (0, 0))], R] := Has0.drew hH _
  refine Rest.phaseA (fun w_ => Has E w_ [[Hp.one tb (.cells #[(.pointer (some ⟨db, 0, none⟩)), (.int .i64 n)] 98 (0, 0))]]) 0 7 7 rfl (by decide) (by kernel_rfl) ?_
  refine a_op 0 rfl (by kernel_rfl) (fun w_ h_ => o_move (v := (.pointer (some ⟨tb, 0, none⟩))) rfl ⟨rfl, rfl⟩) ?_
  refine a_op 1 rfl (by kernel_rfl) (fun w_ h_ => o_nilCheck rfl ⟨rfl, rfl⟩) ?_
  refine a_op 2 rfl (by kernel_rfl) (fun w_ h_ => o_fieldAddr (k := 0) (fun _ => by kernel_rfl) rfl ⟨rfl, rfl⟩) ?_
  refine a_op 3 rfl (by kernel_rfl) (fun w_ h_ => o_load1 (v := (.pointer (some ⟨db, 0, none⟩))) Tryz.underlying29 rfl rfl h_ (seg_sub 0 rfl) (CellsAt.one rfl) ⟨rfl, rfl⟩) ?_
  refine a_op 4 rfl (by kernel_rfl) (fun w_ h_ => o_move (v := v) rfl ⟨rfl, rfl⟩) ?_
  have hH5 : Has E { w with drawn := w.drawn + 1 } [[Hp.one tb (.cells #[(.pointer (some ⟨db, 0, none⟩)), (.int .i64 n)] 98 (0, 0))]] := (hH4.front 2 rfl).first 1 rfl
  refine a_w 5 rfl (by kernel_rfl) hH5 (o_callf (vs := #[(.int .i64 1), v]) ca121 rfl (args2 rfl rfl) (put_c hH4.all 1 (l := l) (hv.mono (seg_sub 3 rfl)) (by omega)) ?_)
  rintro _ w8 ⟨rfl, hX6⟩
  refine ⟨_, rfl, ?_⟩
  have hH7 := hX6.of_all
  have hH9 : Has E w8 [[Hp.one tb (.cells #[(.pointer (some ⟨db, 0, none⟩)), (.int .i64 n)] 98 (0, 0))]] := (hH7.front 2 rfl).first 1 rfl
  refine a_w 6 rfl (by kernel_rfl) hH9 (o_buildSlice (ps := #[(0, (S (putS 1 l)))]) (cells := #[(S (putS 1 l))]) Tryz.underlying102 ti9 (by decide) (parts1 rfl) (by kernel_rfl) hH7 fun b10 w11 hH12 => ?_)
  have hH13 : Has E w11 [[Hp.one tb (.cells #[(.pointer (some ⟨db, 0, none⟩)), (.int .i64 n)] 98 (0, 0))]] := (hH12.front 3 rfl).first 1 rfl
  refine a_done (by kernel_rfl) hH13 ?_
  refine r_op 7 rfl (by kernel_rfl) (o_callf (vs := #[(.pointer (some ⟨db, 0, none⟩)), (.int .i64 0), (.slice (some ⟨b10, 0, none⟩) 1 1)]) ca52 rfl (args3 rfl rfl rfl) (dv_wr (d := d) ((hH12.front 2 rfl).front 2 rfl).all2 hd (hf.ok (by omega)) h4 0 (l := [(putS 1 l)]) ((sl_lit (f := sV) (l := [(putS 1 l)]) rfl rfl (by simp)).mono (seg_sub 0 rfl)) (s := (putS 1 l)) (by simp) (by simp) (by omega)) ?_)
  rintro _ w18 ⟨sg14, rfl, hd15, hX16⟩
  refine ⟨_, rfl, ?_⟩
  have hH17 : Has E w18 [sg14, [Hp.one pb (.cells #[(.bool (d.wr 0 (putS 1 l)).p.off), (.bool (d.wr 0 (putS 1 l)).p.armed), (.int .i64 (d.wr 0 (putS 1 l)).p.left), (.int .i64 (d.wr 0 (putS 1 l)).p.uses)] 101 (0, 0))], [Hp.one b10 (.cells #[(S (putS 1 l))] 9 (0, 0))], [Hp.one tb (.cells #[(.pointer (some ⟨db, 0, none⟩)), (.int .i64 n)] 98 (0, 0))], R] := hX16.of_all2
  refine r_op 8 rfl (by kernel_rfl) (o_assign (v := (.int .i64 (d.wrE 0 (putS 1 l)))) rfl ?_)
  refine Rest.done (by kernel_rfl) ?_
  refine t_norm (hK3 _ _ ?_)
  refine wp_seq_k fun K19 hK19 => ?_
  refine c_region ?_
  refine s_op (o_move (v := (.int .i64 (d.wrE 0 (putS 1 l)))) rfl ?_)
  refine s_op (o_neq (a := d.wrE 0 (putS 1 l)) (b := 0) rfl rfl ?_)
  refine s_nil ?_
  refine t_norm (hK19 _ _ ?_)
  refine c_cond rfl (fun h20 => ?_) (fun h20 => ?_)
  · -- d.wrE 0 (putS 1 l) ≠ 0
    refine wp_seq_k fun K21 hK21 => ?_
    refine c_region ?_
    refine s_op (o_move (v := (.int .i64 (d.wrE 0 (putS 1 l)))) rfl ?_)
    refine s_op (o_assign (v := (.int .i64 (d.wrE 0 (putS 1 l)))) rfl ?_)
    refine s_nil ?_
    refine t_norm (hK21 _ _ ?_)
    refine wp_ret ?_
    refine t_ret (c_ret1 Tryz.results98  (v := (.int .i64 (d.wrE 0 (putS 1 l)))) rfl ?_)
    have hH22 : Has E w18 [sg14, [Hp.one pb (.cells #[(.bool (d.wr 0 (putS 1 l)).p.off), (.bool (d.wr 0 (putS 1 l)).p.armed), (.int .i64 (d.wr 0 (putS 1 l)).p.left), (.int .i64 (d.wr 0 (putS 1 l)).p.uses)] 101 (0, 0))], [Hp.one tb (.cells #[(.pointer (some ⟨db, 0, none⟩)), (.int .i64 n)] 98 (0, 0))], R] := ((((hH17.front 4 rfl).front 4 rfl).front 3 rfl).front 3 rfl).first 4 rfl
    have hE_ : (wrsy d (mrkG l)) = (d.wrE 0 (putS 1 l), (d.wr 0 (putS 1 l))) := by show wrsy d [(0, putS 1 l)] = _; rw [wrsy_stop h20]
    exact ⟨_, by rw [hE_], by rw [hE_]; exact hd15, by rw [hE_]; exact hH22⟩
  · -- not: d.wrE 0 (putS 1 l) ≠ 0
    refine wp_skip ?_
    refine t_norm (hK2 _ _ ?_)
    refine wp_seq_k fun K23 hK23 => ?_
    refine c_region ?_
    refine s_op (o_move (v := (.pointer (some ⟨tb, 0, none⟩))) rfl ?_)
    refine s_op (o_nilCheck rfl ?_)
    refine s_op (o_fieldAddr (k := 0) (fun _ => by kernel_rfl) rfl ?_)
    refine s_op (o_load1 (v := (.pointer (some ⟨db, 0, none⟩))) Tryz.underlying29 rfl rfl hH17 (seg_sub 3 rfl) (CellsAt.one rfl) ?_)
    refine s_op (o_callf (vs := #[(.pointer (some ⟨db, 0, none⟩))]) ca27 rfl (args1 rfl) (dv_sy (d := (d.wr 0 (putS 1 l))) ((hH17.front 1 rfl).front 1 rfl).all2 hd15 (hf.use.ok (by omega)) h4 (hlk.write _ _ _)) ?_)
    rintro _ w28 ⟨sg24, rfl, hd25, hX26⟩
    refine ⟨_, rfl, ?_⟩
    have hH27 : Has E w28 [sg24, [Hp.one pb (.cells #[(.bool ((d.wr 0 (putS 1 l)).sy).p.off), (.bool ((d.wr 0 (putS 1 l)).sy).p.armed), (.int .i64 ((d.wr 0 (putS 1 l)).sy).p.left), (.int .i64 ((d.wr 0 (putS 1 l)).sy).p.uses)] 101 (0, 0))], [Hp.one b10 (.cells #[(S (putS 1 l))] 9 (0, 0))], [Hp.one tb (.cells #[(.pointer (some ⟨db, 0, none⟩)), (.int .i64 n)] 98 (0, 0))], R] := hX26.of_all2
    refine s_op (o_assign (v := (.int .i64 ((d.wr 0 (putS 1 l)).syE))) rfl ?_)
    refine s_nil ?_
    refine t_norm (hK23 _ _ ?_)
    refine wp_ret ?_
    refine c_ret1 Tryz.results98  (v := (.int .i64 ((d.wr 0 (putS 1 l)).syE))) rfl ?_
    have hH29 : Has E w28 [sg24, [Hp.one pb (.cells #[(.bool ((d.wr 0 (putS 1 l)).sy).p.off), (.bool ((d.wr 0 (putS 1 l)).sy).p.armed), (.int .i64 ((d.wr 0 (putS 1 l)).sy).p.left), (.int .i64 ((d.wr 0 (putS 1 l)).sy).p.uses)] 101 (0, 0))], [Hp.one tb (.cells #[(.pointer (some ⟨db, 0, none⟩)), (.int .i64 n)] 98 (0, 0))], R] := ((((hH27.front 4 rfl).front 4 rfl).front 3 rfl).front 3 rfl).first 4 rfl
    have hE_ : (wrsy d (mrkG l)) = ((d.wr 0 (putS 1 l)).syE, (d.wr 0 (putS 1 l)).sy) := by show wrsy d [(0, putS 1 l)] = _; rw [wrsy_go (Classical.not_not.1 h20), wrsy_nil]
    exact ⟨_, by rw [hE_], by rw [hE_]; exact hd25, by rw [hE_]; exact hH29⟩
set_option maxHeartbeats 4000000 in
theorem place_c {E w : World} {R : List Hp} (hH : Has E w [R]) {x : Int} (hx : 0 ≤ x ∧ x ≤ 1000) :
    Calls Tryz.prog 64 #[(.int .i64 x)] w fun e w' => e = .returned (.int .i64 (plc x)) ∧ Has E w' [R] := by
  refine c_enter (args := [(.int .i64 x)]) Tryz.func64 rfl Tryz.ntmps64 (by simp) ?_
  refine wp_seq_k fun K1 hK1 => ?_
  refine c_region ?_
  refine s_op (o_assign (v := (.int .i64 0)) rfl ?_)
  refine s_nil ?_
  refine t_norm (hK1 _ _ ?_)
  refine wp_seq_k fun K2 hK2 => ?_
  refine c_region ?_
  refine s_op (o_move (v := (.int .i64 x)) rfl ?_)
  refine s_op (o_mul (a := x) (b := 4) rfl rfl (w64 (by omega) (by omega)) ?_)
  refine s_op (o_add (a := 5) (b := x * 4) rfl rfl (w64 (by omega) (by omega)) ?_)
  refine s_op (o_assign (v := (.int .i64 (5 + (x * 4)))) rfl ?_)
  refine s_nil ?_
  refine t_norm (hK2 _ _ ?_)
  refine wp_ret ?_
  refine c_ret1 Tryz.results64  (v := (.int .i64 (5 + (x * 4)))) rfl ?_
  exact ⟨by unfold plc; rfl, hH⟩
end Go.Q
namespace Go.Q
open Go.Proofs
set_option linter.unusedVariables false
set_option maxRecDepth 100000
attribute [local irreducible] wpList OK Code.wp
set_option maxHeartbeats 4000000 in
theorem tfmt_ok {E w : World} {R sg : List Hp} {pb db : Nat} {p : Pw} {m : Nat} (hH : Has E w [sg, [Hp.one pb (.cells #[(.bool p.off), (.bool p.armed), (.int .i64 p.left), (.int .i64 p.uses)] 101 (0, 0))], R]) (hd : DevAt pb sg db (List.replicate m blankS) []) {n : Int} (hcal : p.off = false ∧ p.armed = false) {k : Nat} (hf : Few p k) (hk : k ≤ 800000) (hm : m ≤ 4096) (hn : 1 ≤ n ∧ n ≤ 64) (hln : 5 + n * 4 ≤ m) :
    Calls Tryz.prog 13 #[(.pointer (some ⟨db, 0, none⟩)), (.int .i64 n)] w fun e w' => ∃ tb sg', e = .returned (.tuple #[.pointer (some ⟨tb, 0, none⟩), .int .i64 0]) ∧ DevAt pb sg' db (List.replicate m blankS) [] ∧ Has E w' [[Hp.one tb (.cells #[(.pointer (some ⟨db, 0, none⟩)), (.int .i64 n)] 98 (0, 0))], sg', [Hp.one pb (.cells #[(.bool (Pw.mk false false (p.left - (m + 1)) (p.uses + (m + 1))).off), (.bool (Pw.mk false false (p.left - (m + 1)) (p.uses + (m + 1))).armed), (.int .i64 (Pw.mk false false (p.left - (m + 1)) (p.uses + (m + 1))).left), (.int .i64 (Pw.mk false false (p.left - (m + 1)) (p.uses + (m + 1))).uses)] 101 (0, 0))], R] := by
  have hml_ : (List.replicate m blankS).length = m := List.length_replicate
  refine c_enter (args := [(.pointer (some ⟨db, 0, none⟩)), (.int .i64 n)]) Tryz.func13 rfl Tryz.ntmps13 (by simp) ?_
  refine wp_seq_k fun K1 hK1 => ?_
  refine c_region ?_
  refine s_op (o_assign (v := (.pointer none)) rfl ?_)
  refine s_op (o_assign (v := (.int .i64 0)) rfl ?_)
  refine s_nil ?_
  refine t_norm (hK1 _ _ ?_)
  refine wp_seq_k fun K2 hK2 => ?_
  refine wp_seq_k fun K3 hK3 => ?_
  refine c_region ?_
  refine s_op (o_move (v := (.pointer (some ⟨db, 0, none⟩))) rfl ?_)
  refine s_op (o_move (v := (.int .i64 n)) rfl ?_)
  refine s_op (o_callf (vs := #[(.pointer (some ⟨db, 0, none⟩)), (.int .i64 n)]) ca50 rfl (args2 rfl rfl) (begin_ok (d := (Dv.mk p (List.replicate m blankS) [])) ((hH.front 1 rfl).front 1 rfl).all2 hd (n := n) (by rw [List.length_replicate]; exact hm) hn (by rw [List.length_replicate]; omega) hcal.1) ?_)
  rintro _ w6 ⟨rfl, hX4⟩
  refine ⟨_, rfl, ?_⟩
  have hH5 : Has E w6 [sg, [Hp.one pb (.cells #[(.bool p.off), (.bool p.armed), (.int .i64 p.left), (.int .i64 p.uses)] 101 (0, 0))], R] := hX4.of_all2
  refine s_op (o_assign (v := (.int .i64 (0 : Int))) rfl ?_)
  refine s_nil ?_
  refine t_norm (hK3 _ _ ?_)
  refine wp_seq_k fun K7 hK7 => ?_
  refine c_region ?_
  refine s_op (o_move (v := (.int .i64 (0 : Int))) rfl ?_)
  refine s_op (o_neq (a := (0 : Int)) (b := 0) rfl rfl ?_)
  refine s_nil ?_
  refine t_norm (hK7 _ _ ?_)
  refine c_cond rfl (fun h8 => ?_) (fun h8 => ?_)
  · -- (0 : Int) ≠ 0
    exact absurd rfl h8
  · -- not: (0 : Int) ≠ 0
    refine wp_skip ?_
    refine t_norm (hK2 _ _ ?_)
    refine wp_seq_k fun K9 hK9 => ?_
    refine wp_seq_k fun K10 hK10 => ?_
    refine c_region ?_
    refine s_op (o_move (v := (.pointer (some ⟨db, 0, none⟩))) rfl ?_)
    refine s_op (o_callf (vs := #[(.pointer (some ⟨db, 0, none⟩))]) ca51 rfl (args1 rfl) (sectors_d (p := p) (la := (List.replicate m blankS)) (lo := []) ((hH5.front 1 rfl).front 1 rfl).all2 hd ) ?_)
    rintro _ w13 ⟨rfl, hX11⟩
    refine ⟨_, rfl, ?_⟩
    have hH12 : Has E w13 [sg, [Hp.one pb (.cells #[(.bool p.off), (.bool p.armed), (.int .i64 p.left), (.int .i64 p.uses)] 101 (0, 0))], R] := hX11.of_all2
    refine s_op (o_move (v := (.int .i64 0)) rfl ?_)
    refine s_nil ?_
    refine t_norm (hK10 _ _ ?_)
    refine wp_block ?_
    have hH14 : Has E w13 [sg, [Hp.one pb (.cells #[(.bool (Dv.mk p (List.replicate m blankS) []).p.off), (.bool (Dv.mk p (List.replicate m blankS) []).p.armed), (.int .i64 (Dv.mk p (List.replicate m blankS) []).p.left), (.int .i64 (Dv.mk p (List.replicate m blankS) []).p.uses)] 101 (0, 0))], R] := hH12
    let I16 : Nat → (Nat → Value) → World → Prop := fun n__ r__ w__ => ∃ (i : Nat) (dc : Dv) (sgc : List Hp), n__ = m - i ∧ Has E w__ [sgc, [Hp.one pb (.cells #[(.bool dc.p.off), (.bool dc.p.armed), (.int .i64 dc.p.left), (.int .i64 dc.p.uses)] 101 (0, 0))], R] ∧ (i ≤ m) ∧ (DevAt pb sgc db dc.la dc.lo) ∧ (dc.p = ⟨false, false, p.left - i, p.uses + i⟩) ∧ (Few dc.p (k + i)) ∧ (dc.la = (List.replicate m blankS)) ∧ (LoOk dc.lo dc.la.length) ∧ (nowS dc.la dc.lo = (List.replicate m blankS)) ∧ r__ 0 = (.pointer (some ⟨db, 0, none⟩)) ∧ r__ 1 = (.int .i64 n) ∧ r__ 6 = (.int .i64 (0 : Int)) ∧ r__ 14 = (.bool (decide ((0 : Int) ≠ 0))) ∧ r__ 17 = (.int .i64 (((List.replicate m blankS).length : Nat) : Int)) ∧ r__ 18 = (.int .i64 (i : Int))
    refine c_loop I16 _ ⟨0, (Dv.mk p (List.replicate m blankS) []), sg, rfl, hH14, Nat.zero_le _, hd, (by obtain ⟨a_, b_, c_, d_⟩ := p; obtain ⟨h1_, h2_⟩ := hcal; cases h1_; cases h2_; simp), hf, rfl, LoOk.nil _, now_nil _, rfl, rfl, rfl, rfl, rfl, rfl⟩ ?_
    rintro n_ r19 w17 ⟨i, dc, sgc, rfl, hH18, hi, hdc, hpc, hcc, hac, hlc, hwc, e15_0, e15_1, e15_6, e15_14, e15_17, e15_18⟩
    refine wp_seq_k fun K20 hK20 => ?_
    refine c_region ?_
    refine s_op (o_lss (a := (i : Int)) (b := (((List.replicate m blankS).length : Nat) : Int)) e15_18 e15_17 ?_)
    refine s_nil ?_
    refine t_norm (hK20 _ _ ?_)
    refine wp_seq_k fun K21 hK21 => ?_
    refine c_cond rfl (fun h22 => ?_) (fun h22 => ?_)
    · -- (i : Int) < (((List.replicate m blankS).length : Nat) : Int)
      refine wp_skip ?_
      refine t_norm (hK21 _ _ ?_)
      refine wp_seq_k fun K23 hK23 => ?_
      refine wp_block ?_
      refine wp_seq_k fun K24 hK24 => ?_
      refine c_region ?_
      refine s_op (o_move (v := (.int .i64 (i : Int))) e15_18 ?_)
      refine s_op (o_assign (v := (.int .i64 (i : Int))) rfl ?_)
      refine s_nil ?_
      refine t_norm (hK24 _ _ ?_)
      refine wp_seq_k fun K25 hK25 => ?_
      refine c_region ?_
      refine s_op (o_move (v := (.pointer (some ⟨db, 0, none⟩))) e15_0 ?_)
      refine s_op (o_move (v := (.int .i64 (i : Int))) rfl ?_)
      refine s_op (o_callf (vs := #[(.pointer (some ⟨db, 0, none⟩)), (.int .i64 (i : Int)), (.slice none 0 0)]) ca52 rfl (args3 rfl rfl rfl) (dv_wr (d := dc) ((hH18.front 1 rfl).front 1 rfl).all2 hdc (hcc.ok (by omega)) (by rw [hac, List.length_replicate]; exact hm) (i : Int) (l := ([] : List Bs)) (sl_nil 1) (s := ([] : Bs)) rfl (by simp) (by simp)) ?_)
      rintro _ w30 ⟨sg26, rfl, hd27, hX28⟩
      refine ⟨_, rfl, ?_⟩
      have hH29 : Has E w30 [sg26, [Hp.one pb (.cells #[(.bool (dc.wr (i : Int) ([] : Bs)).p.off), (.bool (dc.wr (i : Int) ([] : Bs)).p.armed), (.int .i64 (dc.wr (i : Int) ([] : Bs)).p.left), (.int .i64 (dc.wr (i : Int) ([] : Bs)).p.uses)] 101 (0, 0))], R] := hX28.of_all2
      refine s_op (o_assign (v := (.int .i64 (dc.wrE (i : Int) ([] : Bs)))) rfl ?_)
      refine s_nil ?_
      refine t_norm (hK25 _ _ ?_)
      refine wp_seq_k fun K31 hK31 => ?_
      refine c_region ?_
      refine s_op (o_move (v := (.int .i64 (dc.wrE (i : Int) ([] : Bs)))) rfl ?_)
      refine s_op (o_neq (a := dc.wrE (i : Int) ([] : Bs)) (b := 0) rfl rfl ?_)
      refine s_nil ?_
      refine t_norm (hK31 _ _ ?_)
      refine c_cond rfl (fun h32 => ?_) (fun h32 => ?_)
      · -- dc.wrE (i : Int) ([] : Bs) ≠ 0
        exact absurd (fm_e hpc hac (by omega)) h32
      · -- not: dc.wrE (i : Int) ([] : Bs) ≠ 0
        refine wp_skip ?_
        refine b_norm ?_
        refine t_norm (hK23 _ _ ?_)
        refine c_region ?_
        refine s_op (o_add (a := (i : Int)) (b := 1) e15_18 rfl (w64 (by omega) (by omega)) ?_)
        refine s_op (o_move (v := (.int .i64 ((i : Int) + 1))) rfl ?_)
        refine s_nil ?_
        refine t_norm ⟨m - (i + 1), _, rfl, ?_, ?_⟩
        · omega
        · exact ⟨(i + 1), (dc.wr (i : Int) ([] : Bs)), sg26, rfl, hH29, (by omega), (hd27), (fm_p hpc), (hcc.use), (hac), (hlc.write _ _ _), (fm_now hpc hac hwc (by omega)), e15_0, e15_1, e15_6, e15_14, e15_17, rfl⟩
    · -- not: (i : Int) < (((List.replicate m blankS).length : Nat) : Int)
      refine wp_exit ?_
      refine t_exit (t_exit (x_in (?_)))
      refine t_norm (hK9 _ _ ?_)
      refine wp_seq_k fun K33 hK33 => ?_
      refine wp_seq_k fun K34 hK34 => ?_
      refine c_region ?_
      refine s_op (o_move (v := (.pointer (some ⟨db, 0, none⟩))) e15_0 ?_)
      refine s_op (o_callf (vs := #[(.pointer (some ⟨db, 0, none⟩))]) ca27 rfl (args1 rfl) (dv_sy (d := dc) ((hH18.front 1 rfl).front 1 rfl).all2 hdc (hcc.ok (by omega)) (by rw [hac, List.length_replicate]; exact hm) hlc) ?_)
      rintro _ w39 ⟨sg35, rfl, hd36, hX37⟩
      refine ⟨_, rfl, ?_⟩
      have hH38 : Has E w39 [sg35, [Hp.one pb (.cells #[(.bool dc.sy.p.off), (.bool dc.sy.p.armed), (.int .i64 dc.sy.p.left), (.int .i64 dc.sy.p.uses)] 101 (0, 0))], R] := hX37.of_all2
      refine s_op (o_assign (v := (.int .i64 dc.syE)) rfl ?_)
      refine s_nil ?_
      refine t_norm (hK34 _ _ ?_)
      refine wp_seq_k fun K40 hK40 => ?_
      refine c_region ?_
      refine s_op (o_move (v := (.int .i64 dc.syE)) rfl ?_)
      refine s_op (o_neq (a := dc.syE) (b := 0) rfl rfl ?_)
      refine s_nil ?_
      refine t_norm (hK40 _ _ ?_)
      refine c_cond rfl (fun h41 => ?_) (fun h41 => ?_)
      · -- dc.syE ≠ 0
        exact absurd (fm_sy hpc) h41
      · -- not: dc.syE ≠ 0
        refine wp_skip ?_
        refine t_norm (hK33 _ _ ?_)
        refine wp_seq_k fun K42 hK42 => ?_
        refine c_region ?_
        refine s_op (o_move (v := (.pointer (some ⟨db, 0, none⟩))) e15_0 ?_)
        refine s_op (o_move (v := (.int .i64 n)) e15_1 ?_)
        refine s_op (o_sight (v := (.agg #[(.pointer (some ⟨db, 0, none⟩)), (.int .i64 n)])) (fun _ => by kernel_rfl) ?_)
        refine s_op (o_box (cs := #[(.pointer (some ⟨db, 0, none⟩)), (.int .i64 n)]) rfl rfl hH38 fun b43 w44 hH45 => ?_)
        refine s_op (o_assign (v := (.pointer (some ⟨b43, 0, none⟩))) rfl ?_)
        refine s_op (o_assign (v := (.int .i64 0)) rfl ?_)
        refine s_nil ?_
        refine t_norm (hK42 _ _ ?_)
        refine wp_ret ?_
        refine c_ret2 Tryz.results13  (v := (.pointer (some ⟨b43, 0, none⟩))) rfl (x := (.int .i64 0)) rfl ?_
        have ei_ : i = m := by omega
        obtain ⟨q1_, q2_, q3_⟩ := fm_end hpc hac hlc hwc
        have hd_ := hd36
        rw [q2_, q3_] at hd_
        have hH_ := hH45
        rw [q1_, ei_] at hH_
        exact ⟨_, _, rfl, hd_, hH_⟩
end Go.Q
namespace Go.Q
section ops
variable {P : Program} {ρ : Operand → Value} {E w : World} {ss : List (List Hp)} {K : Value → World → Prop} {dst : Option Tmp} {T : TypeId} {pos : String} {after : Array Edge} {g : Option (Nat × Bool)}
theorem o_makeFunc {f : FuncId} {cs : Array Operand} {vs : Array Value} (hv : cs.map ρ = vs) (hK : K (.func (.func f) #[] vs) w) : OK P ⟨dst, .makeFunc (.func f) #[] cs, T, pos, after, g⟩ ρ w K := by
  refine OK.val (w' := w) ?_ hK
  subst hv; simp [execOp, Instr.makeFunc]
variable {a b c : Operand} {u v x y : Value}
theorem cap1 (h1 : ρ a = u) : #[a].map ρ = #[u] := by simp [*]
end ops
end Go.Q
namespace Go.Q
open Go.Proofs
set_option linter.unusedVariables false
set_option maxRecDepth 100000
attribute [local irreducible] wpList OK Code.wp
set_option maxHeartbeats 4000000 in
theorem keyf_c {E w : World} {R : List Hp} {k : Bs}  (hH : Has E w [R]) :
    Calls Tryz.prog 160 #[(S k)] w fun e w' => e = .returned (.bool (keyR k)) ∧ Has E w' [R] := by
  refine c_enter (args := [(S k)]) Tryz.func160 rfl Tryz.ntmps160 (by simp) ?_
  refine wp_seq_k fun K1 hK1 => ?_
  refine c_region ?_
  refine s_op (o_assign (v := (.bool false)) rfl ?_)
  refine s_nil ?_
  refine t_norm (hK1 _ _ ?_)
  refine wp_seq_k fun K2 hK2 => ?_
  refine c_region ?_
  refine s_op (o_move (v := (S k)) rfl ?_)
  refine s_op (o_sneq (a := k) (b := ([] : List UInt8)) rfl rfl ?_)
  refine s_op (o_move (v := (.bool (decide (k ≠ ([] : List UInt8))))) rfl ?_)
  by_cases h3 : k ≠ ([] : List UInt8)
  · -- k ≠ ([] : List UInt8)
    refine s_on 5 rfl (congrArg Value.bool (decide_eq_true h3)) (o_move (v := (S k)) rfl ?_)
    refine s_on 5 rfl (congrArg Value.bool (decide_eq_true h3)) (o_slen Tryz.underlying9 rfl ?_)
    refine s_on 5 rfl (congrArg Value.bool (decide_eq_true h3)) (o_leq (a := (k.length : Int)) (b := 8) rfl rfl ?_)
    refine s_op (o_pick_t (u := (.bool (decide ((k.length : Int) ≤ 8)))) ((rfl : _ = _).trans (congrArg Value.bool (decide_eq_true h3))) rfl ?_)
    refine s_op (o_assign (v := (.bool (decide ((k.length : Int) ≤ 8)))) rfl ?_)
    refine s_nil ?_
    refine t_norm (hK2 _ _ ?_)
    refine wp_ret ?_
    refine c_ret1 Tryz.results160  (v := (.bool (decide ((k.length : Int) ≤ 8)))) rfl ?_
    have q4 : (keyR k) = decide ((k.length : Int) ≤ 8) := by rw [Bool.eq_iff_iff]; first | (simp [keyR, h3]; done) | (simp_all [keyR]; done)
    exact ⟨by rw [q4], hH⟩
  · -- not: k ≠ ([] : List UInt8)
    refine s_off (b' := false) 5 rfl (congrArg Value.bool (decide_eq_false h3)) rfl ?_
    refine s_off (b' := false) 5 rfl (congrArg Value.bool (decide_eq_false h3)) rfl ?_
    refine s_off (b' := false) 5 rfl (congrArg Value.bool (decide_eq_false h3)) rfl ?_
    refine s_op (o_pick_f (u := (.bool false)) ((rfl : _ = _).trans (congrArg Value.bool (decide_eq_false h3))) rfl ?_)
    refine s_op (o_assign (v := (.bool false)) rfl ?_)
    refine s_nil ?_
    refine t_norm (hK2 _ _ ?_)
    refine wp_ret ?_
    refine c_ret1 Tryz.results160  (v := (.bool false)) rfl ?_
    have q5 : (keyR k) = false := by rw [Bool.eq_iff_iff]; first | (simp [keyR, h3]; done) | (simp_all [keyR]; done)
    exact ⟨by rw [q5], hH⟩
set_option maxHeartbeats 4000000 in
theorem valf_c {E w : World} {R : List Hp} {v : Bool × Bs}  (hH : Has E w [R]) :
    Calls Tryz.prog 162 #[(.agg #[(.bool v.1), (S v.2)])] w fun e w' => e = .returned (.bool (valR v)) ∧ Has E w' [R] := by
  refine c_enter (args := [(.agg #[(.bool v.1), (S v.2)])]) Tryz.func162 rfl Tryz.ntmps162 (by simp) ?_
  refine wp_seq_k fun K1 hK1 => ?_
  refine c_region ?_
  refine s_op (o_box (cs := #[(.bool v.1), (S v.2)]) rfl rfl hH fun b2 w3 hH4 => ?_)
  refine s_op (o_assign (v := (.bool false)) rfl ?_)
  refine s_nil ?_
  refine t_norm (hK1 _ _ ?_)
  refine wp_seq_k fun K5 hK5 => ?_
  refine c_region ?_
  refine s_op (o_fieldAddr (k := 1) (fun _ => by kernel_rfl) rfl ?_)
  refine s_op (o_load1 (v := (S v.2)) Tryz.underlying9 rfl rfl hH4 (seg_sub 0 rfl) (CellsAt.one rfl) ?_)
  refine s_op (o_slen Tryz.underlying9 rfl ?_)
  refine s_op (o_leq (a := (v.2.length : Int)) (b := 16) rfl rfl ?_)
  refine s_op (o_move (v := (.bool (decide ((v.2.length : Int) ≤ 16)))) rfl ?_)
  by_cases h6 : (v.2.length : Int) ≤ 16
  · -- (v.2.length : Int) ≤ 16
    refine s_on 7 rfl (congrArg Value.bool (decide_eq_true h6)) (o_fieldAddr (k := 0) (fun _ => by kernel_rfl) rfl ?_)
    refine s_on 7 rfl (congrArg Value.bool (decide_eq_true h6)) (o_load1 (v := (.bool v.1)) Tryz.underlying4 rfl rfl hH4 (seg_sub 0 rfl) (CellsAt.one rfl) ?_)
    refine s_on 7 rfl (congrArg Value.bool (decide_eq_true h6)) (o_move (v := (.bool v.1)) rfl ?_)
    rcases Bool.eq_false_or_eq_true v.1 with h7 | h7
    · -- v.1
      refine s_off (b' := true) 10 rfl (congrArg Value.bool h7) rfl ?_
      refine s_off (b' := true) 10 rfl (congrArg Value.bool h7) rfl ?_
      refine s_off (b' := true) 10 rfl (congrArg Value.bool h7) rfl ?_
      refine s_on 7 rfl (congrArg Value.bool (decide_eq_true h6)) (o_pick_t (u := (.bool true)) ((rfl : _ = _).trans (congrArg Value.bool h7)) rfl ?_)
      refine s_op (o_pick_t (u := (.bool true)) ((rfl : _ = _).trans (congrArg Value.bool (decide_eq_true h6))) rfl ?_)
      refine s_op (o_assign (v := (.bool true)) rfl ?_)
      refine s_nil ?_
      refine t_norm (hK5 _ _ ?_)
      refine wp_ret ?_
      refine c_ret1 Tryz.results162  (v := (.bool true)) rfl ?_
      have q8 : (valR v) = true := by rw [Bool.eq_iff_iff]; first | (simp [valR, h6, h7]; done) | (simp_all [valR]; done)
      have hH9 : Has E w3 [R] := (hH4.front 1 rfl).first 1 rfl
      exact ⟨by rw [q8], hH9⟩
    · -- not: v.1
      refine s_on 10 rfl (congrArg Value.bool h7) (o_fieldAddr (k := 1) (fun _ => by kernel_rfl) rfl ?_)
      refine s_on 10 rfl (congrArg Value.bool h7) (o_load1 (v := (S v.2)) Tryz.underlying9 rfl rfl hH4 (seg_sub 0 rfl) (CellsAt.one rfl) ?_)
      refine s_on 10 rfl (congrArg Value.bool h7) (o_seql (a := v.2) (b := ([] : List UInt8)) rfl rfl ?_)
      refine s_on 7 rfl (congrArg Value.bool (decide_eq_true h6)) (o_pick_f (u := (.bool (decide (v.2 = ([] : List UInt8))))) ((rfl : _ = _).trans (congrArg Value.bool h7)) rfl ?_)
      refine s_op (o_pick_t (u := (.bool (decide (v.2 = ([] : List UInt8))))) ((rfl : _ = _).trans (congrArg Value.bool (decide_eq_true h6))) rfl ?_)
      refine s_op (o_assign (v := (.bool (decide (v.2 = ([] : List UInt8))))) rfl ?_)
      refine s_nil ?_
      refine t_norm (hK5 _ _ ?_)
      refine wp_ret ?_
      refine c_ret1 Tryz.results162  (v := (.bool (decide (v.2 = ([] : List UInt8))))) rfl ?_
      have q10 : (valR v) = decide (v.2 = ([] : List UInt8)) := by rw [Bool.eq_iff_iff]; first | (simp [valR, h6, h7]; done) | (simp_all [valR]; done)
      have hH11 : Has E w3 [R] := (hH4.front 1 rfl).first 1 rfl
      exact ⟨by rw [q10], hH11⟩
  · -- not: (v.2.length : Int) ≤ 16
    refine s_off (b' := false) 7 rfl (congrArg Value.bool (decide_eq_false h6)) rfl ?_
    refine s_off (b' := false) 7 rfl (congrArg Value.bool (decide_eq_false h6)) rfl ?_
    refine s_off (b' := false) 7 rfl (congrArg Value.bool (decide_eq_false h6)) rfl ?_
    refine s_offu 10 rfl rfl ?_
    refine s_offu 10 rfl rfl ?_
    refine s_offu 10 rfl rfl ?_
    refine s_off (b' := false) 7 rfl (congrArg Value.bool (decide_eq_false h6)) rfl ?_
    refine s_op (o_pick_f (u := (.bool false)) ((rfl : _ = _).trans (congrArg Value.bool (decide_eq_false h6))) rfl ?_)
    refine s_op (o_assign (v := (.bool false)) rfl ?_)
    refine s_nil ?_
    refine t_norm (hK5 _ _ ?_)
    refine wp_ret ?_
    refine c_ret1 Tryz.results162  (v := (.bool false)) rfl ?_
    have q12 : (valR v) = false := by rw [Bool.eq_iff_iff]; first | (simp [valR, h6]; done) | (simp_all [valR]; done)
    have hH13 : Has E w3 [R] := (hH4.front 1 rfl).first 1 rfl
    exact ⟨by rw [q12], hH13⟩
set_option maxHeartbeats 4000000 in
theorem sindexf_c {E w : World} {R : List Hp} {v_l : Value} {l : List (List UInt8)} {fn : FuncId} {first cap : Array Value} {va : Value → Array Value} {c : (List UInt8) → Bool}  (hH : Has E w [R]) (h_l : Sl R 1 v_l l.length (l.map sV)) (hcl : Callable Tryz.prog fn) (hva : ∀ v, first ++ #[v] ++ cap = va v) (hcb : ∀ {w : World} (F_ : List Hp) (x_ : List UInt8), Has E w [R, F_] → Calls Tryz.prog fn (va (S x_)) w fun e w' => e = .returned (.bool (c x_)) ∧ Has E w' [R, F_]) :
    Calls Tryz.prog 184 #[v_l, (.func (.func fn) first cap)] w fun e w' => e = .returned (.int .i64 (idxG c l)) ∧ Has E w' [R] := by
  have hn_ := h_l.le
  refine c_enter (args := [v_l, (.func (.func fn) first cap)]) Tryz.func184 rfl Tryz.ntmps184 (by simp) ?_
  refine wp_seq_k fun K1 hK1 => ?_
  refine c_region ?_
  refine s_op (o_assign (v := (.int .i64 0)) rfl ?_)
  refine s_nil ?_
  refine t_norm (hK1 _ _ ?_)
  refine wp_seq_k fun K2 hK2 => ?_
  refine wp_seq_k fun K3 hK3 => ?_
  refine c_region ?_
  refine s_op (o_move (v := v_l) rfl ?_)
  refine s_op (o_lenS Tryz.underlying102 rfl h_l ?_)
  refine s_op (o_move (v := (.int .i64 0)) rfl ?_)
  refine s_nil ?_
  refine t_norm (hK3 _ _ ?_)
  refine wp_block ?_
  let I5 : Nat → (Nat → Value) → World → Prop := fun n__ r__ w__ => ∃ (k : Nat), n__ = l.length - k ∧ Has E w__ [R] ∧ (k ≤ l.length) ∧ (∀ j, j < k → ∀ y, l[j]? = some y → c y = false) ∧ r__ 0 = v_l ∧ r__ 1 = (.func (.func fn) first cap) ∧ r__ 7 = (.int .i64 ((l.length : Nat) : Int)) ∧ r__ 8 = (.int .i64 (k : Int))
  refine c_loop I5 _ ⟨0, rfl, hH, Nat.zero_le _, fun j hj => by omega, rfl, rfl, rfl, rfl⟩ ?_
  rintro n_ r8 w6 ⟨k, rfl, hH7, hk, hf, e4_0, e4_1, e4_7, e4_8⟩
  refine wp_seq_k fun K9 hK9 => ?_
  refine c_region ?_
  refine s_op (o_lss (a := (k : Int)) (b := ((l.length : Nat) : Int)) e4_8 e4_7 ?_)
  refine s_nil ?_
  refine t_norm (hK9 _ _ ?_)
  refine wp_seq_k fun K10 hK10 => ?_
  refine c_cond rfl (fun h11 => ?_) (fun h11 => ?_)
  · -- (k : Int) < ((l.length : Nat) : Int)
    refine wp_skip ?_
    refine t_norm (hK10 _ _ ?_)
    refine wp_seq_k fun K12 hK12 => ?_
    refine wp_block ?_
    refine wp_seq_k fun K13 hK13 => ?_
    refine c_region ?_
    refine s_op (o_move (v := (.int .i64 (k : Int))) e4_8 ?_)
    refine s_op (o_assign (v := (.int .i64 (k : Int))) rfl ?_)
    refine s_nil ?_
    refine t_norm (hK13 _ _ ?_)
    refine wp_seq_k fun K14 hK14 => ?_
    refine c_region ?_
    refine s_op (o_move (v := (.func (.func fn) first cap)) e4_1 ?_)
    refine s_op (o_move (v := v_l) e4_0 ?_)
    refine s_op (o_move (v := (.int .i64 (k : Int))) rfl ?_)
    obtain ⟨x18, hx19⟩ : ∃ x_, l[((k : Int)).toNat]? = some x_ := get_some (by omega)
    refine s_op (o_index1 Tryz.underlying102 ti9 rfl h_l rfl (by omega) hx19 fun b15 o16 hc17 => ?_)
    refine s_op (o_load1 (v := (S x18)) Tryz.underlying9 rfl rfl hH7 (seg_sub 0 rfl) hc17 ?_)
    refine s_op (o_callf (first := first) (captured := cap) (vs := va (S x18)) hcl rfl ((argsG1 rfl).trans (hva _)) (hcb _ x18 hH7.all1) ?_)
    rintro _ w22 ⟨rfl, hX20⟩
    refine ⟨_, rfl, ?_⟩
    have hH21 := hX20.of_all1
    refine s_nil ?_
    refine t_norm (hK14 _ _ ?_)
    refine c_condb rfl (fun h23 => ?_) (fun h23 => ?_)
    · -- c x18
      refine wp_seq_k fun K24 hK24 => ?_
      refine c_region ?_
      refine s_op (o_move (v := (.int .i64 (k : Int))) rfl ?_)
      refine s_op (o_assign (v := (.int .i64 (k : Int))) rfl ?_)
      refine s_nil ?_
      refine t_norm (hK24 _ _ ?_)
      refine wp_ret ?_
      refine b_ret (t_ret (t_ret (b_ret (t_ret (c_ret1 Tryz.results184  (v := (.int .i64 (k : Int))) rfl ?_)))))
      have q25 : idxG c l = (k : Int) := by exact idxG_some hf (show l[k]? = some _ from hx19) h23
      exact ⟨by rw [q25], hH21⟩
    · -- not: c x18
      refine wp_skip ?_
      refine b_norm ?_
      refine t_norm (hK12 _ _ ?_)
      refine c_region ?_
      refine s_op (o_add (a := (k : Int)) (b := 1) e4_8 rfl (w64 (by omega) (by omega)) ?_)
      refine s_op (o_move (v := (.int .i64 ((k : Int) + 1))) rfl ?_)
      refine s_nil ?_
      refine t_norm ⟨l.length - (k + 1), _, rfl, ?_, ?_⟩
      · omega
      · exact ⟨(k + 1), rfl, hH21, (by omega), ((fun j hj y hy => by rcases Nat.lt_or_ge j k with g | g; exact hf j g y hy; obtain rfl : j = k := (by omega); have e_ := hy.symm.trans (show l[j]? = some _ from hx19); cases e_; exact h23)), e4_0, e4_1, e4_7, rfl⟩
  · -- not: (k : Int) < ((l.length : Nat) : Int)
    refine wp_exit ?_
    refine t_exit (t_exit (x_in (?_)))
    refine t_norm (hK2 _ _ ?_)
    refine wp_seq_k fun K26 hK26 => ?_
    refine c_region ?_
    refine s_op (o_assign (v := (.int .i64 (-1))) rfl ?_)
    refine s_nil ?_
    refine t_norm (hK26 _ _ ?_)
    refine wp_ret ?_
    refine c_ret1 Tryz.results184  (v := (.int .i64 (-1))) rfl ?_
    have q27 : idxG c l = -1 := by exact idxG_none fun j x hx => hf j (by have := (List.getElem?_eq_some_iff.1 hx).1; omega) x hx
    exact ⟨by rw [q27], hH7⟩
set_option maxHeartbeats 4000000 in
theorem scontainsf_c {E w : World} {R : List Hp} {v_l : Value} {l : List (List UInt8)} {fn : FuncId} {first cap : Array Value} {va : Value → Array Value} {c : (List UInt8) → Bool}  (hH : Has E w [R]) (h_l : Sl R 1 v_l l.length (l.map sV)) (hcl : Callable Tryz.prog fn) (hva : ∀ v, first ++ #[v] ++ cap = va v) (hcb : ∀ {w : World} (F_ : List Hp) (x_ : List UInt8), Has E w [R, F_] → Calls Tryz.prog fn (va (S x_)) w fun e w' => e = .returned (.bool (c x_)) ∧ Has E w' [R, F_]) :
    Calls Tryz.prog 175 #[v_l, (.func (.func fn) first cap)] w fun e w' => e = .returned (.bool (l.any c)) ∧ Has E w' [R] := by
  refine c_enter (args := [v_l, (.func (.func fn) first cap)]) Tryz.func175 rfl Tryz.ntmps175 (by simp) ?_
  refine wp_seq_k fun K1 hK1 => ?_
  refine c_region ?_
  refine s_op (o_assign (v := (.bool false)) rfl ?_)
  refine s_nil ?_
  refine t_norm (hK1 _ _ ?_)
  refine wp_seq_k fun K2 hK2 => ?_
  refine c_region ?_
  refine s_op (o_move (v := v_l) rfl ?_)
  refine s_op (o_move (v := (.func (.func fn) first cap)) rfl ?_)
  refine s_op (o_callf (vs := #[v_l, (.func (.func fn) first cap)]) ca184 rfl (args2 rfl rfl) (sindexf_c (l := l) (c := c) (va := va) hH.all (h_l.mono (seg_sub 0 rfl)) hcl hva (cb_more (α := List UInt8) (R := R) (va := fun x_ => va (S x_)) (A := fun x_ e_ => e_ = .returned (.bool (c x_))) hcb)) ?_)
  rintro _ w5 ⟨rfl, hX3⟩
  refine ⟨_, rfl, ?_⟩
  have hH4 := hX3.of_all
  refine s_op (o_geq (a := idxG c l) (b := 0) rfl rfl ?_)
  refine s_op (o_assign (v := (.bool (decide (0 ≤ idxG c l)))) rfl ?_)
  refine s_nil ?_
  refine t_norm (hK2 _ _ ?_)
  refine wp_ret ?_
  refine c_ret1 Tryz.results175  (v := (.bool (decide (0 ≤ idxG c l)))) rfl ?_
  have q6 : l.any c = decide (0 ≤ idxG c l) := by exact idxG_any.symm
  exact ⟨by rw [q6], hH4⟩
set_option maxHeartbeats 4000000 in
theorem all1s_c {E w : World} {R : List Hp} {x : Bs} {bx : Nat}  {fn : FuncId} {first cap : Array Value} {va : Value → Array Value} {c : (List UInt8) → Bool}  (hH : Has E w [R]) (h_bx : CellsAt R bx 0 [(.func (.func fn) first cap)]) (hcl : Callable Tryz.prog fn) (hva : ∀ v, first ++ #[v] ++ cap = va v) (hcb : ∀ {w : World} (F_ : List Hp) (x_ : List UInt8), Has E w [R, F_] → Calls Tryz.prog fn (va (S x_)) w fun e w' => e = .returned (.bool (c x_)) ∧ Has E w' [R, F_]) :
    Calls Tryz.prog 176 #[(S x), (.pointer (some ⟨bx, 0, none⟩))] w fun e w' => e = .returned (.bool (notP c x)) ∧ Has E w' [R] := by
  refine c_enter (args := [(S x), (.pointer (some ⟨bx, 0, none⟩))]) Tryz.func176 rfl Tryz.ntmps176 (by simp) ?_
  refine wp_seq_k fun K1 hK1 => ?_
  refine c_region ?_
  refine s_op (o_assign (v := (.bool false)) rfl ?_)
  refine s_nil ?_
  refine t_norm (hK1 _ _ ?_)
  refine wp_seq_k fun K2 hK2 => ?_
  refine c_region ?_
  refine s_op (o_load1 (v := (.func (.func fn) first cap)) Tryz.underlying108 rfl rfl hH (seg_sub 0 rfl) h_bx ?_)
  refine s_op (o_move (v := (S x)) rfl ?_)
  refine s_op (o_callf (first := first) (captured := cap) (vs := va (S x)) hcl rfl ((argsG1 rfl).trans (hva _)) (hcb _ x hH.all1) ?_)
  rintro _ w5 ⟨rfl, hX3⟩
  refine ⟨_, rfl, ?_⟩
  have hH4 := hX3.of_all1
  refine s_op (o_not rfl ?_)
  refine s_op (o_assign (v := (.bool (!(c x)))) rfl ?_)
  refine s_nil ?_
  refine t_norm (hK2 _ _ ?_)
  refine wp_ret ?_
  refine c_ret1 Tryz.results176  (v := (.bool (!(c x)))) rfl ?_
  have q6 : (notP c x) = !(c x) := by rfl
  exact ⟨by rw [q6], hH4⟩
set_option maxHeartbeats 4000000 in
theorem alls_c {E w : World} {R : List Hp} {v_l : Value} {l : List (List UInt8)} {fn : FuncId} {first cap : Array Value} {va : Value → Array Value} {c : (List UInt8) → Bool}  (hH : Has E w [R]) (h_l : Sl R 1 v_l l.length (l.map sV)) (hcl : Callable Tryz.prog fn) (hva : ∀ v, first ++ #[v] ++ cap = va v) (hcb : ∀ {w : World} (F_ : List Hp) (x_ : List UInt8), Has E w [R, F_] → Calls Tryz.prog fn (va (S x_)) w fun e w' => e = .returned (.bool (c x_)) ∧ Has E w' [R, F_]) :
    Calls Tryz.prog 161 #[v_l, (.func (.func fn) first cap)] w fun e w' => e = .returned (.bool (l.all c)) ∧ Has E w' [R] := by
  refine c_enter (args := [v_l, (.func (.func fn) first cap)]) Tryz.func161 rfl Tryz.ntmps161 (by simp) ?_
  refine wp_seq_k fun K1 hK1 => ?_
  refine c_region ?_
  refine s_op (o_box (cs := #[(.func (.func fn) first cap)]) rfl rfl hH fun b2 w3 hH4 => ?_)
  refine s_op (o_assign (v := (.bool false)) rfl ?_)
  refine s_nil ?_
  refine t_norm (hK1 _ _ ?_)
  refine wp_seq_k fun K5 hK5 => ?_
  refine c_region ?_
  refine s_op (o_move (v := v_l) rfl ?_)
  refine s_op (o_makeFunc (vs := #[(.pointer (some ⟨b2, 0, none⟩))]) (cap1 rfl) ?_)
  refine s_op (o_callf (vs := #[v_l, (.func (.func 176) #[] #[(.pointer (some ⟨b2, 0, none⟩))])]) ca175 rfl (args2 rfl rfl) (scontainsf_c (l := l) (c := notP c) (va := fun v_ => #[v_, (.pointer (some ⟨b2, 0, none⟩))]) hH4.all (h_l.mono (seg_sub 1 rfl)) ca176 (fun _ => by simp) (fun F_ x_ h_ => Calls.frameF (all1s_c (x := x_) (c := c) (va := va) h_.all ((CellsAt.one rfl).mono (fun _ g_ => sub_l ((seg_sub 0 rfl) g_))) hcl hva (cb_mid (α := List UInt8) (va := fun x_ => va (S x_)) (A := fun x_ e_ => e_ = .returned (.bool (c x_))) hcb)))) ?_)
  rintro _ w8 ⟨rfl, hX6⟩
  refine ⟨_, rfl, ?_⟩
  have hH7 := hX6.of_all
  refine s_op (o_not rfl ?_)
  refine s_op (o_assign (v := (.bool (!(l.any (notP c))))) rfl ?_)
  refine s_nil ?_
  refine t_norm (hK5 _ _ ?_)
  refine wp_ret ?_
  refine c_ret1 Tryz.results161  (v := (.bool (!(l.any (notP c))))) rfl ?_
  have q9 : (l.all c) = !(l.any (notP c)) := by exact (any_notP c l).symm
  have hH10 : Has E w8 [R] := (hH7.front 1 rfl).first 1 rfl
  exact ⟨by rw [q9], hH10⟩
set_option maxHeartbeats 4000000 in
theorem vindexf_c {E w : World} {R : List Hp} {v_l : Value} {l : List (Bool × Bs)} {fn : FuncId} {first cap : Array Value} {va : Value → Array Value} {c : (Bool × Bs) → Bool}  (hH : Has E w [R]) (h_l : Sl R 2 v_l l.length (l.flatMap vlC)) (hcl : Callable Tryz.prog fn) (hva : ∀ v, first ++ #[v] ++ cap = va v) (hcb : ∀ {w : World} (F_ : List Hp) (x_ : Bool × Bs), Has E w [R, F_] → Calls Tryz.prog fn (va (.agg #[(.bool x_.1), (S x_.2)])) w fun e w' => e = .returned (.bool (c x_)) ∧ Has E w' [R, F_]) :
    Calls Tryz.prog 185 #[v_l, (.func (.func fn) first cap)] w fun e w' => e = .returned (.int .i64 (idxG c l)) ∧ Has E w' [R] := by
  have hn_ := h_l.le
  refine c_enter (args := [v_l, (.func (.func fn) first cap)]) Tryz.func185 rfl Tryz.ntmps185 (by simp) ?_
  refine wp_seq_k fun K1 hK1 => ?_
  refine c_region ?_
  refine s_op (o_assign (v := (.int .i64 0)) rfl ?_)
  refine s_nil ?_
  refine t_norm (hK1 _ _ ?_)
  refine wp_seq_k fun K2 hK2 => ?_
  refine wp_seq_k fun K3 hK3 => ?_
  refine c_region ?_
  refine s_op (o_move (v := v_l) rfl ?_)
  refine s_op (o_lenS Tryz.underlying202 rfl h_l ?_)
  refine s_op (o_move (v := (.int .i64 0)) rfl ?_)
  refine s_nil ?_
  refine t_norm (hK3 _ _ ?_)
  refine wp_block ?_
  let I5 : Nat → (Nat → Value) → World → Prop := fun n__ r__ w__ => ∃ (k : Nat), n__ = l.length - k ∧ Has E w__ [R] ∧ (k ≤ l.length) ∧ (∀ j, j < k → ∀ y, l[j]? = some y → c y = false) ∧ r__ 0 = v_l ∧ r__ 1 = (.func (.func fn) first cap) ∧ r__ 7 = (.int .i64 ((l.length : Nat) : Int)) ∧ r__ 8 = (.int .i64 (k : Int))
  refine c_loop I5 _ ⟨0, rfl, hH, Nat.zero_le _, fun j hj => by omega, rfl, rfl, rfl, rfl⟩ ?_
  rintro n_ r8 w6 ⟨k, rfl, hH7, hk, hf, e4_0, e4_1, e4_7, e4_8⟩
  refine wp_seq_k fun K9 hK9 => ?_
  refine c_region ?_
  refine s_op (o_lss (a := (k : Int)) (b := ((l.length : Nat) : Int)) e4_8 e4_7 ?_)
  refine s_nil ?_
  refine t_norm (hK9 _ _ ?_)
  refine wp_seq_k fun K10 hK10 => ?_
  refine c_cond rfl (fun h11 => ?_) (fun h11 => ?_)
  · -- (k : Int) < ((l.length : Nat) : Int)
    refine wp_skip ?_
    refine t_norm (hK10 _ _ ?_)
    refine wp_seq_k fun K12 hK12 => ?_
    refine wp_block ?_
    refine wp_seq_k fun K13 hK13 => ?_
    refine c_region ?_
    refine s_op (o_move (v := (.int .i64 (k : Int))) e4_8 ?_)
    refine s_op (o_assign (v := (.int .i64 (k : Int))) rfl ?_)
    refine s_nil ?_
    refine t_norm (hK13 _ _ ?_)
    refine wp_seq_k fun K14 hK14 => ?_
    refine c_region ?_
    refine s_op (o_move (v := (.func (.func fn) first cap)) e4_1 ?_)
    refine s_op (o_move (v := v_l) e4_0 ?_)
    refine s_op (o_move (v := (.int .i64 (k : Int))) rfl ?_)
    obtain ⟨x18, hx19⟩ : ∃ x_, l[((k : Int)).toNat]? = some x_ := get_some (by omega)
    refine s_op (o_indexF vlC_len Tryz.underlying202 ti62 rfl h_l rfl rfl (by omega) hx19 fun b15 o16 hc17 => ?_)
    refine s_op (o_loadN (cs := [(.bool x18.1), (S x18.2)]) Tryz.underlying62 rfl ti62 rfl hH7 (seg_sub 0 rfl) hc17 ?_)
    refine s_op (o_callf (first := first) (captured := cap) (vs := va (.agg #[(.bool x18.1), (S x18.2)])) hcl rfl ((argsG1 rfl).trans (hva _)) (hcb _ x18 hH7.all1) ?_)
    rintro _ w22 ⟨rfl, hX20⟩
    refine ⟨_, rfl, ?_⟩
    have hH21 := hX20.of_all1
    refine s_nil ?_
    refine t_norm (hK14 _ _ ?_)
    refine c_condb rfl (fun h23 => ?_) (fun h23 => ?_)
    · -- c x18
      refine wp_seq_k fun K24 hK24 => ?_
      refine c_region ?_
      refine s_op (o_move (v := (.int .i64 (k : Int))) rfl ?_)
      refine s_op (o_assign (v := (.int .i64 (k : Int))) rfl ?_)
      refine s_nil ?_
      refine t_norm (hK24 _ _ ?_)
      refine wp_ret ?_
      refine b_ret (t_ret (t_ret (b_ret (t_ret (c_ret1 Tryz.results185  (v := (.int .i64 (k : Int))) rfl ?_)))))
      have q25 : idxG c l = (k : Int) := by exact idxG_some hf (show l[k]? = some _ from hx19) h23
      exact ⟨by rw [q25], hH21⟩
    · -- not: c x18
      refine wp_skip ?_
      refine b_norm ?_
      refine t_norm (hK12 _ _ ?_)
      refine c_region ?_
      refine s_op (o_add (a := (k : Int)) (b := 1) e4_8 rfl (w64 (by omega) (by omega)) ?_)
      refine s_op (o_move (v := (.int .i64 ((k : Int) + 1))) rfl ?_)
      refine s_nil ?_
      refine t_norm ⟨l.length - (k + 1), _, rfl, ?_, ?_⟩
      · omega
      · exact ⟨(k + 1), rfl, hH21, (by omega), ((fun j hj y hy => by rcases Nat.lt_or_ge j k with g | g; exact hf j g y hy; obtain rfl : j = k := (by omega); have e_ := hy.symm.trans (show l[j]? = some _ from hx19); cases e_; exact h23)), e4_0, e4_1, e4_7, rfl⟩
  · -- not: (k : Int) < ((l.length : Nat) : Int)
    refine wp_exit ?_
    refine t_exit (t_exit (x_in (?_)))
    refine t_norm (hK2 _ _ ?_)
    refine wp_seq_k fun K26 hK26 => ?_
    refine c_region ?_
    refine s_op (o_assign (v := (.int .i64 (-1))) rfl ?_)
    refine s_nil ?_
    refine t_norm (hK26 _ _ ?_)
    refine wp_ret ?_
    refine c_ret1 Tryz.results185  (v := (.int .i64 (-1))) rfl ?_
    have q27 : idxG c l = -1 := by exact idxG_none fun j x hx => hf j (by have := (List.getElem?_eq_some_iff.1 hx).1; omega) x hx
    exact ⟨by rw [q27], hH7⟩
set_option maxHeartbeats 4000000 in
theorem vcontainsf_c {E w : World} {R : List Hp} {v_l : Value} {l : List (Bool × Bs)} {fn : FuncId} {first cap : Array Value} {va : Value → Array Value} {c : (Bool × Bs) → Bool}  (hH : Has E w [R]) (h_l : Sl R 2 v_l l.length (l.flatMap vlC)) (hcl : Callable Tryz.prog fn) (hva : ∀ v, first ++ #[v] ++ cap = va v) (hcb : ∀ {w : World} (F_ : List Hp) (x_ : Bool × Bs), Has E w [R, F_] → Calls Tryz.prog fn (va (.agg #[(.bool x_.1), (S x_.2)])) w fun e w' => e = .returned (.bool (c x_)) ∧ Has E w' [R, F_]) :
    Calls Tryz.prog 177 #[v_l, (.func (.func fn) first cap)] w fun e w' => e = .returned (.bool (l.any c)) ∧ Has E w' [R] := by
  refine c_enter (args := [v_l, (.func (.func fn) first cap)]) Tryz.func177 rfl Tryz.ntmps177 (by simp) ?_
  refine wp_seq_k fun K1 hK1 => ?_
  refine c_region ?_
  refine s_op (o_assign (v := (.bool false)) rfl ?_)
  refine s_nil ?_
  refine t_norm (hK1 _ _ ?_)
  refine wp_seq_k fun K2 hK2 => ?_
  refine c_region ?_
  refine s_op (o_move (v := v_l) rfl ?_)
  refine s_op (o_move (v := (.func (.func fn) first cap)) rfl ?_)
  refine s_op (o_callf (vs := #[v_l, (.func (.func fn) first cap)]) ca185 rfl (args2 rfl rfl) (vindexf_c (l := l) (c := c) (va := va) hH.all (h_l.mono (seg_sub 0 rfl)) hcl hva (cb_more (α := Bool × Bs) (R := R) (va := fun x_ => va (.agg #[(.bool x_.1), (S x_.2)])) (A := fun x_ e_ => e_ = .returned (.bool (c x_))) hcb)) ?_)
  rintro _ w5 ⟨rfl, hX3⟩
  refine ⟨_, rfl, ?_⟩
  have hH4 := hX3.of_all
  refine s_op (o_geq (a := idxG c l) (b := 0) rfl rfl ?_)
  refine s_op (o_assign (v := (.bool (decide (0 ≤ idxG c l)))) rfl ?_)
  refine s_nil ?_
  refine t_norm (hK2 _ _ ?_)
  refine wp_ret ?_
  refine c_ret1 Tryz.results177  (v := (.bool (decide (0 ≤ idxG c l)))) rfl ?_
  have q6 : l.any c = decide (0 ≤ idxG c l) := by exact idxG_any.symm
  exact ⟨by rw [q6], hH4⟩
set_option maxHeartbeats 4000000 in
theorem all1v_c {E w : World} {R : List Hp} {x : Bool × Bs} {bx : Nat}  {fn : FuncId} {first cap : Array Value} {va : Value → Array Value} {c : (Bool × Bs) → Bool}  (hH : Has E w [R]) (h_bx : CellsAt R bx 0 [(.func (.func fn) first cap)]) (hcl : Callable Tryz.prog fn) (hva : ∀ v, first ++ #[v] ++ cap = va v) (hcb : ∀ {w : World} (F_ : List Hp) (x_ : Bool × Bs), Has E w [R, F_] → Calls Tryz.prog fn (va (.agg #[(.bool x_.1), (S x_.2)])) w fun e w' => e = .returned (.bool (c x_)) ∧ Has E w' [R, F_]) :
    Calls Tryz.prog 178 #[(.agg #[(.bool x.1), (S x.2)]), (.pointer (some ⟨bx, 0, none⟩))] w fun e w' => e = .returned (.bool (notP c x)) ∧ Has E w' [R] := by
  refine c_enter (args := [(.agg #[(.bool x.1), (S x.2)]), (.pointer (some ⟨bx, 0, none⟩))]) Tryz.func178 rfl Tryz.ntmps178 (by simp) ?_
  refine wp_seq_k fun K1 hK1 => ?_
  refine c_region ?_
  refine s_op (o_box (cs := #[(.bool x.1), (S x.2)]) rfl rfl hH fun b2 w3 hH4 => ?_)
  refine s_op (o_assign (v := (.bool false)) rfl ?_)
  refine s_nil ?_
  refine t_norm (hK1 _ _ ?_)
  refine wp_seq_k fun K5 hK5 => ?_
  refine c_region ?_
  refine s_op (o_load1 (v := (.func (.func fn) first cap)) Tryz.underlying121 rfl rfl hH4 (seg_sub 1 rfl) h_bx ?_)
  refine s_op (o_loadN (cs := [(.bool x.1), (S x.2)]) Tryz.underlying62 rfl ti62 rfl hH4 (seg_sub 0 rfl) (CellsAt.one rfl) ?_)
  refine s_op (o_callf (first := first) (captured := cap) (vs := va (.agg #[(.bool x.1), (S x.2)])) hcl rfl ((argsG1 rfl).trans (hva _)) (hcb _ (x.1, x.2) (hH4.front 1 rfl).all1) ?_)
  rintro _ w8 ⟨rfl, hX6⟩
  refine ⟨_, rfl, ?_⟩
  have hH7 := hX6.of_all1
  refine s_op (o_not rfl ?_)
  refine s_op (o_assign (v := (.bool (!(c (x.1, x.2))))) rfl ?_)
  refine s_nil ?_
  refine t_norm (hK5 _ _ ?_)
  refine wp_ret ?_
  refine c_ret1 Tryz.results178  (v := (.bool (!(c (x.1, x.2))))) rfl ?_
  have q9 : (notP c x) = !(c (x.1, x.2)) := by rfl
  have hH10 : Has E w8 [R] := hH7.first 1 rfl
  exact ⟨by rw [q9], hH10⟩
set_option maxHeartbeats 4000000 in
theorem allv_c {E w : World} {R : List Hp} {v_l : Value} {l : List (Bool × Bs)} {fn : FuncId} {first cap : Array Value} {va : Value → Array Value} {c : (Bool × Bs) → Bool}  (hH : Has E w [R]) (h_l : Sl R 2 v_l l.length (l.flatMap vlC)) (hcl : Callable Tryz.prog fn) (hva : ∀ v, first ++ #[v] ++ cap = va v) (hcb : ∀ {w : World} (F_ : List Hp) (x_ : Bool × Bs), Has E w [R, F_] → Calls Tryz.prog fn (va (.agg #[(.bool x_.1), (S x_.2)])) w fun e w' => e = .returned (.bool (c x_)) ∧ Has E w' [R, F_]) :
    Calls Tryz.prog 163 #[v_l, (.func (.func fn) first cap)] w fun e w' => e = .returned (.bool (l.all c)) ∧ Has E w' [R] := by
  refine c_enter (args := [v_l, (.func (.func fn) first cap)]) Tryz.func163 rfl Tryz.ntmps163 (by simp) ?_
  refine wp_seq_k fun K1 hK1 => ?_
  refine c_region ?_
  refine s_op (o_box (cs := #[(.func (.func fn) first cap)]) rfl rfl hH fun b2 w3 hH4 => ?_)
  refine s_op (o_assign (v := (.bool false)) rfl ?_)
  refine s_nil ?_
  refine t_norm (hK1 _ _ ?_)
  refine wp_seq_k fun K5 hK5 => ?_
  refine c_region ?_
  refine s_op (o_move (v := v_l) rfl ?_)
  refine s_op (o_makeFunc (vs := #[(.pointer (some ⟨b2, 0, none⟩))]) (cap1 rfl) ?_)
  refine s_op (o_callf (vs := #[v_l, (.func (.func 178) #[] #[(.pointer (some ⟨b2, 0, none⟩))])]) ca177 rfl (args2 rfl rfl) (vcontainsf_c (l := l) (c := notP c) (va := fun v_ => #[v_, (.pointer (some ⟨b2, 0, none⟩))]) hH4.all (h_l.mono (seg_sub 1 rfl)) ca178 (fun _ => by simp) (fun F_ x_ h_ => Calls.frameF (all1v_c (x := x_) (c := c) (va := va) h_.all ((CellsAt.one rfl).mono (fun _ g_ => sub_l ((seg_sub 0 rfl) g_))) hcl hva (cb_mid (α := Bool × Bs) (va := fun x_ => va (.agg #[(.bool x_.1), (S x_.2)])) (A := fun x_ e_ => e_ = .returned (.bool (c x_))) hcb)))) ?_)
  rintro _ w8 ⟨rfl, hX6⟩
  refine ⟨_, rfl, ?_⟩
  have hH7 := hX6.of_all
  refine s_op (o_not rfl ?_)
  refine s_op (o_assign (v := (.bool (!(l.any (notP c))))) rfl ?_)
  refine s_nil ?_
  refine t_norm (hK5 _ _ ?_)
  refine wp_ret ?_
  refine c_ret1 Tryz.results163  (v := (.bool (!(l.any (notP c))))) rfl ?_
  have q9 : (l.all c) = !(l.any (notP c)) := by exact (any_notP c l).symm
  have hH10 : Has E w8 [R] := (hH7.front 1 rfl).first 1 rfl
  exact ⟨by rw [q9], hH10⟩
set_option maxHeartbeats 4000000 in
theorem key_c {E w : World} {R : List Hp} {v_l : Value} {l : List (List UInt8)}  (hH : Has E w [R]) (h_l : Sl R 1 v_l l.length (l.map sV)) :
    Calls Tryz.prog 137 #[v_l] w fun e w' => e = .returned (.bool (l.all keyR)) ∧ Has E w' [R] := by
  refine c_enter (args := [v_l]) Tryz.func137 rfl Tryz.ntmps137 (by simp) ?_
  refine wp_seq_k fun K1 hK1 => ?_
  refine c_region ?_
  refine s_op (o_assign (v := (.bool false)) rfl ?_)
  refine s_nil ?_
  refine t_norm (hK1 _ _ ?_)
  refine wp_seq_k fun K2 hK2 => ?_
  refine c_region ?_
  refine s_op (o_assign (v := (.func (.func 160) #[] #[])) rfl ?_)
  refine s_nil ?_
  refine t_norm (hK2 _ _ ?_)
  refine wp_seq_k fun K3 hK3 => ?_
  refine c_region ?_
  refine s_op (o_move (v := v_l) rfl ?_)
  refine s_op (o_move (v := (.func (.func 160) #[] #[])) rfl ?_)
  refine s_op (o_callf (vs := #[v_l, (.func (.func 160) #[] #[])]) ca161 rfl (args2 rfl rfl) (alls_c (l := l) (c := keyR) (va := fun v_ => #[v_]) hH.all (h_l.mono (seg_sub 0 rfl)) ca160 (fun _ => by simp) (fun F_ x_ h_ => Calls.frameF (keyf_c (k := x_) h_.all))) ?_)
  rintro _ w6 ⟨rfl, hX4⟩
  refine ⟨_, rfl, ?_⟩
  have hH5 := hX4.of_all
  refine s_op (o_assign (v := (.bool (l.all keyR))) rfl ?_)
  refine s_nil ?_
  refine t_norm (hK3 _ _ ?_)
  refine wp_ret ?_
  refine c_ret1 Tryz.results137  (v := (.bool (l.all keyR))) rfl ?_
  exact ⟨rfl, hH5⟩
set_option maxHeartbeats 4000000 in
theorem value_c {E w : World} {R : List Hp} {v_l : Value} {l : List (Bool × Bs)}  (hH : Has E w [R]) (h_l : Sl R 2 v_l l.length (l.flatMap vlC)) :
    Calls Tryz.prog 138 #[v_l] w fun e w' => e = .returned (.bool (l.all valR)) ∧ Has E w' [R] := by
  refine c_enter (args := [v_l]) Tryz.func138 rfl Tryz.ntmps138 (by simp) ?_
  refine wp_seq_k fun K1 hK1 => ?_
  refine c_region ?_
  refine s_op (o_assign (v := (.bool false)) rfl ?_)
  refine s_nil ?_
  refine t_norm (hK1 _ _ ?_)
  refine wp_seq_k fun K2 hK2 => ?_
  refine c_region ?_
  refine s_op (o_assign (v := (.func (.func 162) #[] #[])) rfl ?_)
  refine s_nil ?_
  refine t_norm (hK2 _ _ ?_)
  refine wp_seq_k fun K3 hK3 => ?_
  refine c_region ?_
  refine s_op (o_move (v := v_l) rfl ?_)
  refine s_op (o_move (v := (.func (.func 162) #[] #[])) rfl ?_)
  refine s_op (o_callf (vs := #[v_l, (.func (.func 162) #[] #[])]) ca163 rfl (args2 rfl rfl) (allv_c (l := l) (c := valR) (va := fun v_ => #[v_]) hH.all (h_l.mono (seg_sub 0 rfl)) ca162 (fun _ => by simp) (fun F_ x_ h_ => Calls.frameF (valf_c (v := x_) h_.all))) ?_)
  rintro _ w6 ⟨rfl, hX4⟩
  refine ⟨_, rfl, ?_⟩
  have hH5 := hX4.of_all
  refine s_op (o_assign (v := (.bool (l.all valR))) rfl ?_)
  refine s_nil ?_
  refine t_norm (hK3 _ _ ?_)
  refine wp_ret ?_
  refine c_ret1 Tryz.results138  (v := (.bool (l.all valR))) rfl ?_
  exact ⟨rfl, hH5⟩
set_option maxHeartbeats 4000000 in
theorem rhas_c {E w : World} {R : List Hp} {s : Bs}  (hH : Has E w [R]) :
    Calls Tryz.prog 139 #[(S s)] w fun e w' => e = .returned (.agg #[(.bool true), (S s)]) ∧ Has E w' [R] := by
  refine c_enter (args := [(S s)]) Tryz.func139 rfl Tryz.ntmps139 (by simp) ?_
  refine wp_seq_k fun K1 hK1 => ?_
  refine c_region ?_
  refine s_op (o_alloc (cs := #[(.bool false), (S ([] : List UInt8))]) ti62 rfl hH fun b2 w3 hH4 => ?_)
  refine s_nil ?_
  refine t_norm (hK1 _ _ ?_)
  refine wp_seq_k fun K5 hK5 => ?_
  refine c_region ?_
  refine s_op (o_move (v := (S s)) rfl ?_)
  refine s_op (o_sight (v := (.agg #[(.bool true), (S s)])) (fun _ => by kernel_rfl) ?_)
  refine s_eff (o_storeN (vs := [(.bool true), (S s)]) (c' := #[(.bool true), (S s)]) ti62 rfl rfl rfl rfl (by intro u hu; simp only [List.mem_cons, List.not_mem_nil, or_false] at hu; rcases hu with rfl | rfl <;> first | rfl) (by simp) (by kernel_rfl) (hH4.front 0 rfl) fun w6 hH7 => ?_)
  refine s_nil ?_
  refine t_norm (hK5 _ _ ?_)
  refine wp_ret ?_
  refine c_retC1 Tryz.results139 rfl (run_loadVarN (cs := [(.bool true), (S s)]) Tryz.underlying62 rfl ti62 hH7 (seg_sub 0 rfl) (CellsAt.one rfl)) ?_
  have hH8 : Has E w6 [R] := (hH7.front 1 rfl).first 1 rfl
  exact ⟨rfl, hH8⟩
end Go.Q
namespace Go.Q
open Go.Proofs
set_option linter.unusedVariables false
set_option maxRecDepth 100000
attribute [local irreducible] wpList OK Code.wp
set_option maxHeartbeats 4000000 in
theorem cells_c {E w : World} {R : List Hp} {v_l : Value} {l : List Cel}  (hH : Has E w [R]) (h_l : Sl R 2 v_l l.length (l.flatMap ceC)) :
    Calls Tryz.prog 113 #[v_l] w fun e w' => e = .returned (.bool (cellsR l)) ∧ Has E w' [R] := by
  have hn_ := h_l.le
  refine c_enter (args := [v_l]) Tryz.func113 rfl Tryz.ntmps113 (by simp) ?_
  refine wp_seq_k fun K1 hK1 => ?_
  refine c_region ?_
  refine s_op (o_assign (v := (.bool false)) rfl ?_)
  refine s_nil ?_
  refine t_norm (hK1 _ _ ?_)
  refine wp_seq_k fun K2 hK2 => ?_
  refine wp_seq_k fun K3 hK3 => ?_
  refine c_region ?_
  refine s_op (o_move (v := v_l) rfl ?_)
  refine s_op (o_lenS Tryz.underlying34 rfl h_l ?_)
  refine s_op (o_move (v := (.int .i64 0)) rfl ?_)
  refine s_nil ?_
  refine t_norm (hK3 _ _ ?_)
  refine wp_block ?_
  let I5 : Nat → (Nat → Value) → World → Prop := fun n__ r__ w__ => ∃ (k : Nat), n__ = l.length - k ∧ Has E w__ [R] ∧ (k ≤ l.length) ∧ ((l.take k).all celOk = true) ∧ (Rises (l.take k)) ∧ r__ 0 = v_l ∧ r__ 5 = v_l ∧ r__ 6 = (.int .i64 ((l.length : Nat) : Int)) ∧ r__ 7 = (.int .i64 (k : Int))
  refine c_loop I5 _ ⟨0, rfl, hH, Nat.zero_le _, rfl, List.Pairwise.nil, rfl, rfl, rfl, rfl⟩ ?_
  rintro n_ r8 w6 ⟨k, rfl, hH7, hk, ha, hr, e4_0, e4_5, e4_6, e4_7⟩
  refine wp_seq_k fun K9 hK9 => ?_
  refine c_region ?_
  refine s_op (o_lss (a := (k : Int)) (b := ((l.length : Nat) : Int)) e4_7 e4_6 ?_)
  refine s_nil ?_
  refine t_norm (hK9 _ _ ?_)
  refine wp_seq_k fun K10 hK10 => ?_
  refine c_cond rfl (fun h11 => ?_) (fun h11 => ?_)
  · -- (k : Int) < ((l.length : Nat) : Int)
    refine wp_skip ?_
    refine t_norm (hK10 _ _ ?_)
    refine wp_seq_k fun K12 hK12 => ?_
    refine wp_block ?_
    refine wp_seq_k fun K13 hK13 => ?_
    refine c_region ?_
    refine s_op (o_move (v := (.int .i64 (k : Int))) e4_7 ?_)
    obtain ⟨x17, hx18⟩ : ∃ x_, l[((k : Int)).toNat]? = some x_ := get_some (by omega)
    refine s_op (o_indexF ceC_len Tryz.underlying34 ti70 e4_5 h_l rfl e4_7 (by omega) hx18 fun b14 o15 hc16 => ?_)
    refine s_op (o_loadN (cs := [(S x17.1), (S x17.2)]) Tryz.underlying70 rfl ti70 rfl hH7 (seg_sub 0 rfl) hc16 ?_)
    refine s_op (o_alloc (cs := #[(S ([] : List UInt8)), (S ([] : List UInt8))]) ti70 rfl hH7 fun b19 w20 hH21 => ?_)
    refine s_op (o_assign (v := (.int .i64 (k : Int))) rfl ?_)
    refine s_eff (o_storeN (vs := [(S x17.1), (S x17.2)]) (c' := #[(S x17.1), (S x17.2)]) ti70 rfl rfl rfl rfl (by intro u hu; simp only [List.mem_cons, List.not_mem_nil, or_false] at hu; rcases hu with rfl | rfl <;> first | rfl) (by simp) (by kernel_rfl) (hH21.front 0 rfl) fun w22 hH23 => ?_)
    refine s_nil ?_
    refine t_norm (hK13 _ _ ?_)
    refine wp_seq_k fun K24 hK24 => ?_
    refine Rest.region mixed (by kernel_rfl) ?_
    have hH25 : Has E { w22 with drawn := w22.drawn + 1 } [[Hp.one b19 (.cells #[(S x17.1), (S x17.2)] 70 (0, 0))], R] := Has0.drew hH23 _
    refine r_op 0 rfl (by kernel_rfl) (o_fieldAddr (k := 0) (fun _ => by kernel_rfl) rfl ?_)
    refine r_op 1 rfl (by kernel_rfl) (o_load1 (v := (S x17.1)) Tryz.underlying9 rfl rfl hH25 (seg_sub 0 rfl) (CellsAt.one rfl) ?_)
    refine r_op 2 rfl (by kernel_rfl) (o_buildSlice (ps := #[(0, (S x17.1))]) (cells := #[(S x17.1)]) Tryz.underlying102 ti9 (by decide) (parts1 rfl) (by kernel_rfl) hH25 fun b26 w27 hH28 => ?_)
    refine r_op 3 rfl (by kernel_rfl) (o_callf (vs := #[(.slice (some ⟨b26, 0, none⟩) 1 1)]) ca137 rfl (args1 rfl) (key_c (l := [x17.1]) hH28.all ((sl_lit (f := sV) (l := [x17.1]) rfl rfl (by simp)).mono (seg_sub 0 rfl))) ?_)
    rintro _ w31 ⟨rfl, hX29⟩
    refine ⟨_, rfl, ?_⟩
    have hH30 := hX29.of_all
    refine r_op 4 rfl (by kernel_rfl) (o_not rfl ?_)
    refine r_op 5 rfl (by kernel_rfl) (o_move (v := (.bool (!([x17.1].all keyR)))) rfl ?_)
    rcases Bool.eq_false_or_eq_true (!([x17.1].all keyR)) with h32 | h32
    · -- !([x17.1].all keyR)
      refine r_off (b' := true) 6 rfl (by kernel_rfl) 17 rfl (congrArg Value.bool h32) rfl ?_
      refine r_off (b' := true) 7 rfl (by kernel_rfl) 17 rfl (congrArg Value.bool h32) rfl ?_
      refine r_off (b' := true) 8 rfl (by kernel_rfl) 17 rfl (congrArg Value.bool h32) rfl ?_
      refine r_off (b' := true) 9 rfl (by kernel_rfl) 17 rfl (congrArg Value.bool h32) rfl ?_
      refine r_off (b' := true) 10 rfl (by kernel_rfl) 17 rfl (congrArg Value.bool h32) rfl ?_
      refine r_off (b' := true) 11 rfl (by kernel_rfl) 17 rfl (congrArg Value.bool h32) rfl ?_
      refine r_op 12 rfl (by kernel_rfl) (o_pick_t (u := (.bool true)) ((rfl : _ = _).trans (congrArg Value.bool h32)) rfl ?_)
      refine r_op 13 rfl (by kernel_rfl) (o_move (v := (.bool true)) rfl ?_)
      refine r_off (b' := true) 14 rfl (by kernel_rfl) 25 rfl rfl rfl ?_
      refine r_off (b' := true) 15 rfl (by kernel_rfl) 25 rfl rfl rfl ?_
      refine r_off (b' := true) 16 rfl (by kernel_rfl) 25 rfl rfl rfl ?_
      refine Rest.phaseA (fun w_ => Has E w_ []) 17 25 8 rfl (by decide) (by kernel_rfl) ?_
      refine a_offu 17 rfl (by kernel_rfl) 28 rfl rfl ?_
      refine a_offu 18 rfl (by kernel_rfl) 28 rfl rfl ?_
      refine a_offu 19 rfl (by kernel_rfl) 28 rfl rfl ?_
      refine a_offu 20 rfl (by kernel_rfl) 28 rfl rfl ?_
      refine a_offu 21 rfl (by kernel_rfl) 28 rfl rfl ?_
      refine a_offu 22 rfl (by kernel_rfl) 28 rfl rfl ?_
      refine a_offu 23 rfl (by kernel_rfl) 28 rfl rfl ?_
      refine a_offu 24 rfl (by kernel_rfl) 28 rfl rfl ?_
      have hH33 : Has E w31 [] := hH30.first 0 rfl
      refine a_done (by kernel_rfl) hH33 ?_
      refine r_offu 25 rfl (by kernel_rfl) 28 rfl rfl ?_
      refine r_off (b' := true) 26 rfl (by kernel_rfl) 25 rfl rfl rfl ?_
      refine r_op 27 rfl (by kernel_rfl) (o_pick_t (u := (.bool true)) rfl rfl ?_)
      refine Rest.done (by kernel_rfl) ?_
      refine t_norm (hK24 _ _ ?_)
      refine c_true rfl rfl ?_
      refine wp_seq_k fun K34 hK34 => ?_
      refine c_region ?_
      refine s_op (o_assign (v := (.bool false)) rfl ?_)
      refine s_nil ?_
      refine t_norm (hK34 _ _ ?_)
      refine wp_ret ?_
      refine b_ret (t_ret (t_ret (b_ret (t_ret (c_ret1 Tryz.results113  (v := (.bool false)) rfl ?_)))))
      have q35 : (cellsR l) = false := by exact cells_no1 hx18 (by (have h1_ := h32; simp only [List.all_cons, List.all_nil, Bool.and_true] at h1_; simp only [celOk]; rw [show keyR x17.1 = false by simpa using h1_]; rfl))
      have hH36 : Has E w31 [R] := (hH30.front 2 rfl).first 1 rfl
      exact ⟨by rw [q35], hH36⟩
    · -- not: !([x17.1].all keyR)
      refine r_on 6 rfl (by kernel_rfl) 17 rfl (congrArg Value.bool h32) (o_fieldAddr (k := 1) (fun _ => by kernel_rfl) rfl ?_)
      refine r_on 7 rfl (by kernel_rfl) 17 rfl (congrArg Value.bool h32) (o_load1 (v := (S x17.2)) Tryz.underlying9 rfl rfl hH30 (seg_sub 1 rfl) (CellsAt.one rfl) ?_)
      refine r_on 8 rfl (by kernel_rfl) 17 rfl (congrArg Value.bool h32) (o_callf (vs := #[(S x17.2)]) ca139 rfl (args1 rfl) (rhas_c (s := x17.2) hH30.all ) ?_)
      rintro _ w39 ⟨rfl, hX37⟩
      refine ⟨_, rfl, ?_⟩
      have hH38 := hX37.of_all
      refine r_on 9 rfl (by kernel_rfl) 17 rfl (congrArg Value.bool h32) (o_buildSlice (ps := #[(0, (.agg #[(.bool true), (S x17.2)]))]) (cells := #[(.bool true), (S x17.2)]) Tryz.underlying202 ti62 (by decide) (parts1 rfl) (by kernel_rfl) hH38 fun b40 w41 hH42 => ?_)
      refine r_on 10 rfl (by kernel_rfl) 17 rfl (congrArg Value.bool h32) (o_callf (vs := #[(.slice (some ⟨b40, 0, none⟩) 1 1)]) ca138 rfl (args1 rfl) (value_c (l := [(true, x17.2)]) hH42.all ((sl_litF (f := vlC) (l := [(true, x17.2)]) vlC_len rfl rfl (by simp)).mono (seg_sub 0 rfl))) ?_)
      rintro _ w45 ⟨rfl, hX43⟩
      refine ⟨_, rfl, ?_⟩
      have hH44 := hX43.of_all
      refine r_on 11 rfl (by kernel_rfl) 17 rfl (congrArg Value.bool h32) (o_not rfl ?_)
      refine r_op 12 rfl (by kernel_rfl) (o_pick_f (u := (.bool (!([(true, x17.2)].all valR)))) ((rfl : _ = _).trans (congrArg Value.bool h32)) rfl ?_)
      refine r_op 13 rfl (by kernel_rfl) (o_move (v := (.bool (!([(true, x17.2)].all valR)))) rfl ?_)
      rcases Bool.eq_false_or_eq_true (!([(true, x17.2)].all valR)) with h46 | h46
      · -- !([(true, x17.2)].all valR)
        refine r_off (b' := true) 14 rfl (by kernel_rfl) 25 rfl (congrArg Value.bool h46) rfl ?_
        refine r_off (b' := true) 15 rfl (by kernel_rfl) 25 rfl (congrArg Value.bool h46) rfl ?_
        refine r_off (b' := true) 16 rfl (by kernel_rfl) 25 rfl (congrArg Value.bool h46) rfl ?_
        refine Rest.phaseA (fun w_ => Has E w_ []) 17 25 8 rfl (by decide) (by kernel_rfl) ?_
        refine a_offu 17 rfl (by kernel_rfl) 28 rfl rfl ?_
        refine a_offu 18 rfl (by kernel_rfl) 28 rfl rfl ?_
        refine a_offu 19 rfl (by kernel_rfl) 28 rfl rfl ?_
        refine a_offu 20 rfl (by kernel_rfl) 28 rfl rfl ?_
        refine a_offu 21 rfl (by kernel_rfl) 28 rfl rfl ?_
        refine a_offu 22 rfl (by kernel_rfl) 28 rfl rfl ?_
        refine a_offu 23 rfl (by kernel_rfl) 28 rfl rfl ?_
        refine a_offu 24 rfl (by kernel_rfl) 28 rfl rfl ?_
        have hH47 : Has E w45 [] := hH44.first 0 rfl
        refine a_done (by kernel_rfl) hH47 ?_
        refine r_offu 25 rfl (by kernel_rfl) 28 rfl rfl ?_
        refine r_off (b' := true) 26 rfl (by kernel_rfl) 25 rfl (congrArg Value.bool h46) rfl ?_
        refine r_op 27 rfl (by kernel_rfl) (o_pick_t (u := (.bool true)) ((rfl : _ = _).trans (congrArg Value.bool h46)) rfl ?_)
        refine Rest.done (by kernel_rfl) ?_
        refine t_norm (hK24 _ _ ?_)
        refine c_true rfl rfl ?_
        refine wp_seq_k fun K48 hK48 => ?_
        refine c_region ?_
        refine s_op (o_assign (v := (.bool false)) rfl ?_)
        refine s_nil ?_
        refine t_norm (hK48 _ _ ?_)
        refine wp_ret ?_
        refine b_ret (t_ret (t_ret (b_ret (t_ret (c_ret1 Tryz.results113  (v := (.bool false)) rfl ?_)))))
        have q49 : (cellsR l) = false := by exact cells_no1 hx18 (by (have h1_ := h46; simp only [List.all_cons, List.all_nil, Bool.and_true] at h1_; simp only [celOk]; rw [show valR (true, x17.2) = false by simpa using h1_]; simp))
        have hH50 : Has E w45 [R] := (hH44.front 3 rfl).first 1 rfl
        exact ⟨by rw [q49], hH50⟩
      · -- not: !([(true, x17.2)].all valR)
        refine r_on 14 rfl (by kernel_rfl) 25 rfl (congrArg Value.bool h46) (o_move (v := (.int .i64 (k : Int))) rfl ?_)
        refine r_on 15 rfl (by kernel_rfl) 25 rfl (congrArg Value.bool h46) (o_gtr (a := (k : Int)) (b := 0) rfl rfl ?_)
        refine r_on 16 rfl (by kernel_rfl) 25 rfl (congrArg Value.bool h46) (o_move (v := (.bool (decide (0 < (k : Int))))) rfl ?_)
        refine Rest.phaseA (fun w_ => Has E w_ [[Hp.one b19 (.cells #[(S x17.1), (S x17.2)] 70 (0, 0))], R]) 17 25 8 rfl (by decide) (by kernel_rfl) ?_
        by_cases h51 : 0 < (k : Int)
        · -- 0 < (k : Int)
          refine a_on 17 rfl (by kernel_rfl) 28 rfl (congrArg Value.bool (decide_eq_true h51)) (fun w_ h_ => o_fieldAddr (k := 0) (fun _ => by kernel_rfl) rfl ⟨rfl, rfl⟩) ?_
          refine a_on 18 rfl (by kernel_rfl) 28 rfl (congrArg Value.bool (decide_eq_true h51)) (fun w_ h_ => o_load1 (v := (S x17.1)) Tryz.underlying9 rfl rfl h_ (seg_sub 0 rfl) (CellsAt.one rfl) ⟨rfl, rfl⟩) ?_
          refine a_on 19 rfl (by kernel_rfl) 28 rfl (congrArg Value.bool (decide_eq_true h51)) (fun w_ h_ => o_move (v := v_l) e4_0 ⟨rfl, rfl⟩) ?_
          refine a_on 20 rfl (by kernel_rfl) 28 rfl (congrArg Value.bool (decide_eq_true h51)) (fun w_ h_ => o_move (v := (.int .i64 (k : Int))) rfl ⟨rfl, rfl⟩) ?_
          refine a_on 21 rfl (by kernel_rfl) 28 rfl (congrArg Value.bool (decide_eq_true h51)) (fun w_ h_ => o_sub (a := (k : Int)) (b := 1) rfl rfl (w64 (by omega) (by omega)) ⟨rfl, rfl⟩) ?_
          obtain ⟨x55, hx56⟩ : ∃ x_, l[((k : Int) - 1).toNat]? = some x_ := get_some (by omega)
          obtain ⟨b52, o53, hc54, ho57⟩ := ix_exF ceC_len Tryz.underlying34 ti70 h_l (by omega) hx56
          refine a_on 22 rfl (by kernel_rfl) 28 rfl (congrArg Value.bool (decide_eq_true h51)) (fun w_ h_ => ho57 rfl rfl ⟨rfl, rfl⟩) ?_
          refine a_on 23 rfl (by kernel_rfl) 28 rfl (congrArg Value.bool (decide_eq_true h51)) (fun w_ h_ => o_fieldAddr (k := o53) (fun _ => by kernel_rfl) rfl ⟨rfl, rfl⟩) ?_
          refine a_on 24 rfl (by kernel_rfl) 28 rfl (congrArg Value.bool (decide_eq_true h51)) (fun w_ h_ => o_load1 (v := (S x55.1)) Tryz.underlying9 rfl rfl h_ (seg_sub 1 rfl) (CellsAt.field (k := 0) (ds := [(S x55.1)]) hc54 rfl) ⟨rfl, rfl⟩) ?_
          have hH58 : Has E w45 [[Hp.one b19 (.cells #[(S x17.1), (S x17.2)] 70 (0, 0))], R] := ((hH44.front 3 rfl).front 3 rfl).first 2 rfl
          refine a_done (by kernel_rfl) hH58 ?_
          refine r_on 25 rfl (by kernel_rfl) 28 rfl (congrArg Value.bool (decide_eq_true h51)) (o_sleP (a := x17.1) (b := x55.1) rfl rfl ?_)
          refine r_on 26 rfl (by kernel_rfl) 25 rfl (congrArg Value.bool h46) (o_pick_t (u := (.bool (decide (¬ (x55.1 < x17.1))))) ((rfl : _ = _).trans (congrArg Value.bool (decide_eq_true h51))) rfl ?_)
          refine r_op 27 rfl (by kernel_rfl) (o_pick_f (u := (.bool (decide (¬ (x55.1 < x17.1))))) ((rfl : _ = _).trans (congrArg Value.bool h46)) rfl ?_)
          refine Rest.done (by kernel_rfl) ?_
          refine t_norm (hK24 _ _ ?_)
          refine c_cond rfl (fun h59 => ?_) (fun h59 => ?_)
          · -- ¬ (x55.1 < x17.1)
            refine wp_seq_k fun K60 hK60 => ?_
            refine c_region ?_
            refine s_op (o_assign (v := (.bool false)) rfl ?_)
            refine s_nil ?_
            refine t_norm (hK60 _ _ ?_)
            refine wp_ret ?_
            refine b_ret (t_ret (t_ret (b_ret (t_ret (c_ret1 Tryz.results113  (v := (.bool false)) rfl ?_)))))
            have q61 : (cellsR l) = false := by exact cells_no2 (k := k) (by omega) hx18 (by rw [show k - 1 = ((k : Int) - 1).toNat by omega]; exact hx56) h59
            have hH62 : Has E w45 [R] := (hH44.front 3 rfl).first 1 rfl
            exact ⟨by rw [q61], hH62⟩
          · -- not: ¬ (x55.1 < x17.1)
            refine wp_skip ?_
            refine b_norm ?_
            refine t_norm (hK12 _ _ ?_)
            refine c_region ?_
            refine s_op (o_add (a := (k : Int)) (b := 1) e4_7 rfl (w64 (by omega) (by omega)) ?_)
            refine s_op (o_move (v := (.int .i64 ((k : Int) + 1))) rfl ?_)
            refine s_nil ?_
            have hH63 : Has E w45 [R] := (hH44.front 3 rfl).first 1 rfl
            refine t_norm ⟨l.length - (k + 1), _, rfl, ?_, ?_⟩
            · omega
            · exact ⟨(k + 1), rfl, hH63, (by omega), (all_next (show l[k]? = some _ from hx18) ha (by (have h1_ := h32; have h2_ := h46; simp only [List.all_cons, List.all_nil, Bool.and_true] at h1_ h2_; simp only [celOk, Bool.and_eq_true]; exact ⟨by simpa using h1_, by simpa using h2_⟩))), (cells_next (show l[k]? = some _ from hx18) hr (fun p h0 hp => by (have e_ := hp.symm.trans (show l[k - 1]? = some _ from by rw [show k - 1 = ((k : Int) - 1).toNat by omega]; exact hx56); cases e_; exact Classical.not_not.1 h59))), e4_0, e4_5, e4_6, rfl⟩
        · -- not: 0 < (k : Int)
          refine a_off (b' := false) 17 rfl (by kernel_rfl) 28 rfl (congrArg Value.bool (decide_eq_false h51)) rfl ?_
          refine a_off (b' := false) 18 rfl (by kernel_rfl) 28 rfl (congrArg Value.bool (decide_eq_false h51)) rfl ?_
          refine a_off (b' := false) 19 rfl (by kernel_rfl) 28 rfl (congrArg Value.bool (decide_eq_false h51)) rfl ?_
          refine a_off (b' := false) 20 rfl (by kernel_rfl) 28 rfl (congrArg Value.bool (decide_eq_false h51)) rfl ?_
          refine a_off (b' := false) 21 rfl (by kernel_rfl) 28 rfl (congrArg Value.bool (decide_eq_false h51)) rfl ?_
          refine a_off (b' := false) 22 rfl (by kernel_rfl) 28 rfl (congrArg Value.bool (decide_eq_false h51)) rfl ?_
          refine a_off (b' := false) 23 rfl (by kernel_rfl) 28 rfl (congrArg Value.bool (decide_eq_false h51)) rfl ?_
          refine a_off (b' := false) 24 rfl (by kernel_rfl) 28 rfl (congrArg Value.bool (decide_eq_false h51)) rfl ?_
          have hH64 : Has E w45 [[Hp.one b19 (.cells #[(S x17.1), (S x17.2)] 70 (0, 0))], R] := ((hH44.front 3 rfl).front 3 rfl).first 2 rfl
          refine a_done (by kernel_rfl) hH64 ?_
          refine r_off (b' := false) 25 rfl (by kernel_rfl) 28 rfl (congrArg Value.bool (decide_eq_false h51)) rfl ?_
          refine r_on 26 rfl (by kernel_rfl) 25 rfl (congrArg Value.bool h46) (o_pick_f (u := (.bool false)) ((rfl : _ = _).trans (congrArg Value.bool (decide_eq_false h51))) rfl ?_)
          refine r_op 27 rfl (by kernel_rfl) (o_pick_f (u := (.bool false)) ((rfl : _ = _).trans (congrArg Value.bool h46)) rfl ?_)
          refine Rest.done (by kernel_rfl) ?_
          refine t_norm (hK24 _ _ ?_)
          refine c_false rfl rfl ?_
          refine wp_skip ?_
          refine b_norm ?_
          refine t_norm (hK12 _ _ ?_)
          refine c_region ?_
          refine s_op (o_add (a := (k : Int)) (b := 1) e4_7 rfl (w64 (by omega) (by omega)) ?_)
          refine s_op (o_move (v := (.int .i64 ((k : Int) + 1))) rfl ?_)
          refine s_nil ?_
          have hH65 : Has E w45 [R] := (hH44.front 3 rfl).first 1 rfl
          refine t_norm ⟨l.length - (k + 1), _, rfl, ?_, ?_⟩
          · omega
          · exact ⟨(k + 1), rfl, hH65, (by omega), (all_next (show l[k]? = some _ from hx18) ha (by (have h1_ := h32; have h2_ := h46; simp only [List.all_cons, List.all_nil, Bool.and_true] at h1_ h2_; simp only [celOk, Bool.and_eq_true]; exact ⟨by simpa using h1_, by simpa using h2_⟩))), (cells_next (show l[k]? = some _ from hx18) hr (fun p h0 _ => absurd h0 (by omega))), e4_0, e4_5, e4_6, rfl⟩
  · -- not: (k : Int) < ((l.length : Nat) : Int)
    refine wp_exit ?_
    refine t_exit (t_exit (x_in (?_)))
    refine t_norm (hK2 _ _ ?_)
    refine wp_seq_k fun K66 hK66 => ?_
    refine c_region ?_
    refine s_op (o_move (v := v_l) e4_0 ?_)
    refine s_op (o_lenS Tryz.underlying34 rfl h_l ?_)
    refine s_op (o_leq (a := ((l.length : Nat) : Int)) (b := 8) rfl rfl ?_)
    refine s_op (o_assign (v := (.bool (decide (((l.length : Nat) : Int) ≤ 8)))) rfl ?_)
    refine s_nil ?_
    refine t_norm (hK66 _ _ ?_)
    refine wp_ret ?_
    refine c_ret1 Tryz.results113  (v := (.bool (decide (((l.length : Nat) : Int) ≤ 8)))) rfl ?_
    have q67 : (cellsR l) = decide (((l.length : Nat) : Int) ≤ 8) := by (have e_ : k = l.length := by omega); rw [e_, List.take_length] at ha hr; rw [cells_end ha hr]; exact decide_eq_decide.2 (by omega)
    exact ⟨by rw [q67], hH7⟩
set_option maxHeartbeats 4000000 in
theorem pright_c {E w : World} {R : List Hp} {no : Int} {gsn : Int} {v_l : Value} {l : List Cel}  (hH : Has E w [R]) (h_l : Sl R 2 v_l l.length (l.flatMap ceC)) :
    Calls Tryz.prog 78 #[(.agg #[(.int .i64 no), (.int .i64 gsn), v_l])] w fun e w' => e = .returned (.bool (pageR no gsn l)) ∧ Has E w' [R] := by
  refine c_enter (args := [(.agg #[(.int .i64 no), (.int .i64 gsn), v_l])]) Tryz.func78 rfl Tryz.ntmps78 (by simp) ?_
  refine wp_seq_k fun K1 hK1 => ?_
  refine c_region ?_
  refine s_op (o_box (cs := #[(.int .i64 no), (.int .i64 gsn), v_l]) rfl rfl hH fun b2 w3 hH4 => ?_)
  refine s_op (o_assign (v := (.bool false)) rfl ?_)
  refine s_nil ?_
  refine t_norm (hK1 _ _ ?_)
  refine wp_seq_k fun K5 hK5 => ?_
  refine c_region ?_
  refine s_op (o_fieldAddr (k := 0) (fun _ => by kernel_rfl) rfl ?_)
  refine s_op (o_load1 (v := (.int .i64 no)) Tryz.underlying3 rfl rfl hH4 (seg_sub 0 rfl) (CellsAt.one rfl) ?_)
  refine s_op (o_geq (a := no) (b := 0) rfl rfl ?_)
  refine s_op (o_move (v := (.bool (decide (0 ≤ no)))) rfl ?_)
  by_cases h6 : 0 ≤ no
  · -- 0 ≤ no
    refine s_on 6 rfl (congrArg Value.bool (decide_eq_true h6)) (o_fieldAddr (k := 0) (fun _ => by kernel_rfl) rfl ?_)
    refine s_on 6 rfl (congrArg Value.bool (decide_eq_true h6)) (o_load1 (v := (.int .i64 no)) Tryz.underlying3 rfl rfl hH4 (seg_sub 0 rfl) (CellsAt.one rfl) ?_)
    refine s_on 6 rfl (congrArg Value.bool (decide_eq_true h6)) (o_lss (a := no) (b := 64) rfl rfl ?_)
    refine s_op (o_pick_t (u := (.bool (decide (no < 64)))) ((rfl : _ = _).trans (congrArg Value.bool (decide_eq_true h6))) rfl ?_)
    refine s_op (o_move (v := (.bool (decide (no < 64)))) rfl ?_)
    by_cases h7 : no < 64
    · -- no < 64
      refine s_on 11 rfl (congrArg Value.bool (decide_eq_true h7)) (o_fieldAddr (k := 1) (fun _ => by kernel_rfl) rfl ?_)
      refine s_on 11 rfl (congrArg Value.bool (decide_eq_true h7)) (o_load1 (v := (.int .i64 gsn)) Tryz.underlying3 rfl rfl hH4 (seg_sub 0 rfl) (CellsAt.one rfl) ?_)
      refine s_on 11 rfl (congrArg Value.bool (decide_eq_true h7)) (o_geq (a := gsn) (b := 0) rfl rfl ?_)
      refine s_op (o_pick_t (u := (.bool (decide (0 ≤ gsn)))) ((rfl : _ = _).trans (congrArg Value.bool (decide_eq_true h7))) rfl ?_)
      refine s_op (o_move (v := (.bool (decide (0 ≤ gsn)))) rfl ?_)
      by_cases h8 : 0 ≤ gsn
      · -- 0 ≤ gsn
        refine s_on 16 rfl (congrArg Value.bool (decide_eq_true h8)) (o_fieldAddr (k := 1) (fun _ => by kernel_rfl) rfl ?_)
        refine s_on 16 rfl (congrArg Value.bool (decide_eq_true h8)) (o_load1 (v := (.int .i64 gsn)) Tryz.underlying3 rfl rfl hH4 (seg_sub 0 rfl) (CellsAt.one rfl) ?_)
        refine s_on 16 rfl (congrArg Value.bool (decide_eq_true h8)) (o_leq (a := gsn) (b := 4611686018427387903) rfl rfl ?_)
        refine s_op (o_pick_t (u := (.bool (decide (gsn ≤ 4611686018427387903)))) ((rfl : _ = _).trans (congrArg Value.bool (decide_eq_true h8))) rfl ?_)
        refine s_op (o_move (v := (.bool (decide (gsn ≤ 4611686018427387903)))) rfl ?_)
        by_cases h9 : gsn ≤ 4611686018427387903
        · -- gsn ≤ 4611686018427387903
          refine s_on 21 rfl (congrArg Value.bool (decide_eq_true h9)) (o_fieldAddr (k := 2) (fun _ => by kernel_rfl) rfl ?_)
          refine s_on 21 rfl (congrArg Value.bool (decide_eq_true h9)) (o_load1 (v := v_l) Tryz.underlying34 rfl rfl hH4 (seg_sub 0 rfl) (CellsAt.one rfl) ?_)
          refine s_on 21 rfl (congrArg Value.bool (decide_eq_true h9)) (o_callf (vs := #[v_l]) ca113 rfl (args1 rfl) (cells_c (l := l) hH4.all (h_l.mono (seg_sub 1 rfl))) ?_)
          rintro _ w12 ⟨rfl, hX10⟩
          refine ⟨_, rfl, ?_⟩
          have hH11 := hX10.of_all
          refine s_op (o_pick_t (u := (.bool (cellsR l))) ((rfl : _ = _).trans (congrArg Value.bool (decide_eq_true h9))) rfl ?_)
          refine s_op (o_assign (v := (.bool (cellsR l))) rfl ?_)
          refine s_nil ?_
          refine t_norm (hK5 _ _ ?_)
          refine wp_ret ?_
          refine c_ret1 Tryz.results78  (v := (.bool (cellsR l))) rfl ?_
          have q13 : (pageR no gsn l) = (cellsR l) := by unfold pageR; rw [Bool.eq_iff_iff]; simp [h6, h7, h8, h9]; try omega
          have hH14 : Has E w12 [R] := (hH11.front 1 rfl).first 1 rfl
          exact ⟨by rw [q13], hH14⟩
        · -- not: gsn ≤ 4611686018427387903
          refine s_off (b' := false) 21 rfl (congrArg Value.bool (decide_eq_false h9)) rfl ?_
          refine s_off (b' := false) 21 rfl (congrArg Value.bool (decide_eq_false h9)) rfl ?_
          refine s_off (b' := false) 21 rfl (congrArg Value.bool (decide_eq_false h9)) rfl ?_
          refine s_op (o_pick_f (u := (.bool false)) ((rfl : _ = _).trans (congrArg Value.bool (decide_eq_false h9))) rfl ?_)
          refine s_op (o_assign (v := (.bool false)) rfl ?_)
          refine s_nil ?_
          refine t_norm (hK5 _ _ ?_)
          refine wp_ret ?_
          refine c_ret1 Tryz.results78  (v := (.bool false)) rfl ?_
          have q15 : (pageR no gsn l) = false := by unfold pageR; rw [Bool.eq_iff_iff]; simp [h6, h7, h8, h9]; try omega
          have hH16 : Has E w3 [R] := (hH4.front 1 rfl).first 1 rfl
          exact ⟨by rw [q15], hH16⟩
      · -- not: 0 ≤ gsn
        refine s_off (b' := false) 16 rfl (congrArg Value.bool (decide_eq_false h8)) rfl ?_
        refine s_off (b' := false) 16 rfl (congrArg Value.bool (decide_eq_false h8)) rfl ?_
        refine s_off (b' := false) 16 rfl (congrArg Value.bool (decide_eq_false h8)) rfl ?_
        refine s_op (o_pick_f (u := (.bool false)) ((rfl : _ = _).trans (congrArg Value.bool (decide_eq_false h8))) rfl ?_)
        refine s_op (o_move (v := (.bool false)) rfl ?_)
        refine s_off (b' := false) 21 rfl rfl rfl ?_
        refine s_off (b' := false) 21 rfl rfl rfl ?_
        refine s_off (b' := false) 21 rfl rfl rfl ?_
        refine s_op (o_pick_f (u := (.bool false)) rfl rfl ?_)
        refine s_op (o_assign (v := (.bool false)) rfl ?_)
        refine s_nil ?_
        refine t_norm (hK5 _ _ ?_)
        refine wp_ret ?_
        refine c_ret1 Tryz.results78  (v := (.bool false)) rfl ?_
        have q17 : (pageR no gsn l) = false := by unfold pageR; rw [Bool.eq_iff_iff]; simp [h6, h7, h8]; try omega
        have hH18 : Has E w3 [R] := (hH4.front 1 rfl).first 1 rfl
        exact ⟨by rw [q17], hH18⟩
    · -- not: no < 64
      refine s_off (b' := false) 11 rfl (congrArg Value.bool (decide_eq_false h7)) rfl ?_
      refine s_off (b' := false) 11 rfl (congrArg Value.bool (decide_eq_false h7)) rfl ?_
      refine s_off (b' := false) 11 rfl (congrArg Value.bool (decide_eq_false h7)) rfl ?_
      refine s_op (o_pick_f (u := (.bool false)) ((rfl : _ = _).trans (congrArg Value.bool (decide_eq_false h7))) rfl ?_)
      refine s_op (o_move (v := (.bool false)) rfl ?_)
      refine s_off (b' := false) 16 rfl rfl rfl ?_
      refine s_off (b' := false) 16 rfl rfl rfl ?_
      refine s_off (b' := false) 16 rfl rfl rfl ?_
      refine s_op (o_pick_f (u := (.bool false)) rfl rfl ?_)
      refine s_op (o_move (v := (.bool false)) rfl ?_)
      refine s_off (b' := false) 21 rfl rfl rfl ?_
      refine s_off (b' := false) 21 rfl rfl rfl ?_
      refine s_off (b' := false) 21 rfl rfl rfl ?_
      refine s_op (o_pick_f (u := (.bool false)) rfl rfl ?_)
      refine s_op (o_assign (v := (.bool false)) rfl ?_)
      refine s_nil ?_
      refine t_norm (hK5 _ _ ?_)
      refine wp_ret ?_
      refine c_ret1 Tryz.results78  (v := (.bool false)) rfl ?_
      have q19 : (pageR no gsn l) = false := by unfold pageR; rw [Bool.eq_iff_iff]; simp [h6, h7]; try omega
      have hH20 : Has E w3 [R] := (hH4.front 1 rfl).first 1 rfl
      exact ⟨by rw [q19], hH20⟩
  · -- not: 0 ≤ no
    refine s_off (b' := false) 6 rfl (congrArg Value.bool (decide_eq_false h6)) rfl ?_
    refine s_off (b' := false) 6 rfl (congrArg Value.bool (decide_eq_false h6)) rfl ?_
    refine s_off (b' := false) 6 rfl (congrArg Value.bool (decide_eq_false h6)) rfl ?_
    refine s_op (o_pick_f (u := (.bool false)) ((rfl : _ = _).trans (congrArg Value.bool (decide_eq_false h6))) rfl ?_)
    refine s_op (o_move (v := (.bool false)) rfl ?_)
    refine s_off (b' := false) 11 rfl rfl rfl ?_
    refine s_off (b' := false) 11 rfl rfl rfl ?_
    refine s_off (b' := false) 11 rfl rfl rfl ?_
    refine s_op (o_pick_f (u := (.bool false)) rfl rfl ?_)
    refine s_op (o_move (v := (.bool false)) rfl ?_)
    refine s_off (b' := false) 16 rfl rfl rfl ?_
    refine s_off (b' := false) 16 rfl rfl rfl ?_
    refine s_off (b' := false) 16 rfl rfl rfl ?_
    refine s_op (o_pick_f (u := (.bool false)) rfl rfl ?_)
    refine s_op (o_move (v := (.bool false)) rfl ?_)
    refine s_off (b' := false) 21 rfl rfl rfl ?_
    refine s_off (b' := false) 21 rfl rfl rfl ?_
    refine s_off (b' := false) 21 rfl rfl rfl ?_
    refine s_op (o_pick_f (u := (.bool false)) rfl rfl ?_)
    refine s_op (o_assign (v := (.bool false)) rfl ?_)
    refine s_nil ?_
    refine t_norm (hK5 _ _ ?_)
    refine wp_ret ?_
    refine c_ret1 Tryz.results78  (v := (.bool false)) rfl ?_
    have q21 : (pageR no gsn l) = false := by unfold pageR; rw [Bool.eq_iff_iff]; simp [h6]; try omega
    have hH22 : Has E w3 [R] := (hH4.front 1 rfl).first 1 rfl
    exact ⟨by rw [q21], hH22⟩
end Go.Q
namespace Go.Q
open Go.RowKit
section
variable {P : Program} {ρ : Operand → Value} {E w : World} {ss : List (List Hp)} {K : Value → World → Prop} {dst : Option Tmp} {T : TypeId} {pos : String} {after : Array Edge} {g : Option (Nat × Bool)}
theorem strCells_S (l : List UInt8) : Lib.strCells ⟨l.toArray⟩ = l.map bV := rfl
theorem o_appstr {x y : Operand} {t u e : TypeId} {v : Value} {n : Nat} {cs : List Value} {hs : List Hp} {l : List UInt8} (ht : P.underlying t = some (.slice e)) (hu : P.underlying u = some .string) (hi : TI P e (.int .u8 0) 1 1)
    (hx : ρ x = v) (ho : Own e 1 v n cs hs) (hy : ρ y = S l) (H : Has E w (hs :: ss)) (hb : n + l.length ≤ 140737488355328)
    (hK : ∀ v' hs' w', Own e 1 v' (n + l.length) (cs ++ l.map bV) hs' → (v = .slice none 0 0 → l = [] → v' = .slice none 0 0) → Has E w' (hs' :: ss) → K v' w') :
    OK P ⟨dst, .call ⟨.builtin .append, #[x, y], #[t, u]⟩, T, pos, after, g⟩ ρ w K := by
  obtain ⟨i, hi, hiz, hisz, hiby⟩ := hi
  have hsz : (⟨l.toArray⟩ : ByteArray).size = l.length := by simp [ByteArray.size]
  have hrow := ho.row H
  obtain ⟨v', w', hr, ho', hg, hnil⟩ := Lib.run_append_own_string w 0 t u T e i ht hu hi hiz hisz hiby v n cs hrow ⟨l.toArray⟩ (by rw [hsz]; unfold maxLen; omega) (by rw [hsz]; omega) (Nat.zero_le _)
  have hloc : v'.ownBlock = v.ownBlock ∨ v'.ownBlock = some w.heap.size := by
    obtain ⟨hlc, ⟨rfl, rfl, rfl⟩ | ⟨b, cap, cur, rfl, rfl, hnc, hcm, hcs, htake⟩⟩ := ho
    · by_cases hm : l.length = 0
      · exact .inl (by rw [hnil.2 ⟨rfl, by rw [hsz]; exact hm⟩])
      · have hr2 := run_append_nil_string (P := P) w t u T e i (.int .u8 0) ht hu hi hiz ⟨l.toArray⟩ (by rw [hsz]; omega) (by rw [hsz]; omega) (by rw [hsz, hiby]; omega)
        rw [hr2] at hr
        injection hr with e1 e2
        exact .inr (by rw [← e1]; rfl)
    · have hg0 : w.heap[b]? = some (.cells cur e (0, 0)) := H.at (by simp) (Hp.one_at _ _)
      by_cases hroom : n + (⟨l.toArray⟩ : ByteArray).size ≤ cap
      · have hr2 := Lib.run_append_room_string (P := P) w t u T e i ht hu hi hisz b n cap cur hg0 ⟨l.toArray⟩ hroom (by omega)
        rw [hr2] at hr
        injection hr with e1 e2
        exact .inl (by rw [← e1]; rfl)
      · have holds : ∀ j x, cs[j]? = some x → w.cell? ((⟨b, 0, none⟩ : Addr).add j) = some x := hrow.cells (g := b) rfl
        have hr2 := Lib.run_append_grow_string (P := P) w t u T e i (.int .u8 0) ht hu hi hiz ⟨b, 0, none⟩ n cap cs (by rw [hisz]; simpa using hlc) holds ⟨l.toArray⟩ (by omega) (by rw [hsz]; omega) (by rw [hiby]; exact growslice_fits (by omega) (by rw [hsz]; omega))
        rw [hr2] at hr
        injection hr with e1 e2
        exact .inr (by rw [← e1]; rfl)
  rw [hsz, strCells_S] at ho'
  obtain ⟨hs', hown, hH⟩ := ho.turn H ho' hg hloc
  refine o_call_builtin (v := v') (w' := w') ?_ (hK v' hs' w' hown (fun h1 h2 => hnil.2 ⟨h1, by rw [h2]; rfl⟩) hH)
  have hyy : ρ y = .string ⟨l.toArray⟩ := hy
  simp only [hx, hyy, builtin, List.map_toArray, List.map_cons, List.map_nil, Sem.run_bind, hr, Result.andThen_ok, Sem.run_pure]
/-- unsafe.SliceData of no row, of a row -/
theorem o_uSDnil {x : Operand} {t : TypeId} {n c : Nat} (hx : ρ x = .slice none n c) (h : K (.pointer none) w) : OK P ⟨dst, .call ⟨.builtin .unsafeSliceData, #[x], #[t]⟩, T, pos, after, g⟩ ρ w K := by
  refine o_call_builtin (v := .pointer none) (w' := w) ?_ h
  simp [hx, builtin, Lib.run_unsafeSliceData_nil]
theorem o_uSD {x : Operand} {t : TypeId} {a : Addr} {n c : Nat} (hx : ρ x = .slice (some a) n c) (hc : c ≠ 0) (h : K (.pointer (some a)) w) : OK P ⟨dst, .call ⟨.builtin .unsafeSliceData, #[x], #[t]⟩, T, pos, after, g⟩ ρ w K := by
  refine o_call_builtin (v := .pointer (some a)) (w' := w) ?_ h
  simp [hx, builtin, Lib.run_unsafeSliceData_row w _ _ a n c hc]
theorem Has.freeze {E w : World} {hs : List Hp} {ss : List (List Hp)} {b : Nat} {o : Obj} (H : Has E w (hs :: ss)) (hh : hs = [Hp.one b o]) (n : Nat) : Has E (w.freeze ⟨b, 0, none⟩ n) ss := by
  subst hh
  have h0 : Has0 E w ([Hp.one b o] ++ ss.flatten) := by simpa [Has] using H
  have h1 : Has0 E (w.freeze ⟨b, 0, none⟩ n) ([] ++ ss.flatten) := by
    unfold World.freeze
    split
    · exact h0.weak (by simp)
    · refine Has0.write (an := [Hp.one b o]) (an' := []) h0 rfl rfl rfl (by simp) (fun k _ => .inl (by simp)) (by simp) fun k hk hn => ?_
      have hne : b ≠ k := fun e => by
        have := hn _ (List.mem_singleton.2 rfl)
        rw [← e, Hp.one_at] at this; cases this
      simp only [Array.getElem?_modify]
      rw [if_neg (fun e => hne e)]
  simpa [Has] using h1
/-- unsafe.String of a row's bytes -/
theorem o_uStrNil {x y : Operand} {t u : TypeId} {p : Option Addr} (hx : ρ x = .pointer p) (hy : ρ y = .int .i64 0) (h : K (S []) w) : OK P ⟨dst, .call ⟨.builtin .unsafeString, #[x, y], #[t, u]⟩, T, pos, after, g⟩ ρ w K := by
  refine o_call_builtin (v := S []) (w' := w) ?_ h
  simp only [hx, hy, builtin, List.map_toArray, List.map_cons, List.map_nil, Sem.run_bind, Lib.run_unsafeString_none, Result.andThen_ok, Sem.run_pure]; rfl
theorem o_uStr {x y : Operand} {t u e : TypeId} {b cap : Nat} {l : List UInt8} {hs : List Hp} (ht : P.underlying t = some (.pointer e)) (hc : P.cellsOf e = 1) (hx : ρ x = .pointer (some ⟨b, 0, none⟩)) (hy : ρ y = .int .i64 (l.length : Int))
    (ho : Own e 1 (.slice (some ⟨b, 0, none⟩) l.length cap) l.length (l.map bV) hs) (h0 : l ≠ []) (H : Has E w (hs :: ss)) (hK : ∀ w', Has E w' ss → K (S l) w') : OK P ⟨dst, .call ⟨.builtin .unsafeString, #[x, y], #[t, u]⟩, T, pos, after, g⟩ ρ w K := by
  have hrow := ho.row H
  have hcells := hrow.cells (g := b) rfl
  obtain ⟨hlc, ⟨h, _⟩ | ⟨b', cap', cur, h, hhs, hnc, hcm, hcs, _⟩⟩ := ho
  · cases h
  · cases h
    have hg : w.heap[b]? = some (.cells cur e (0, 0)) := H.at (h := Hp.one b (.cells cur e (0, 0))) (by rw [hhs]; simp) (Hp.one_at _ _)
    have hr := Lib.run_unsafeString_row (P := P) w t u T e ht hc b cur.size (by simp [World.shape?, hg]) l h0 (by omega) (by unfold maxLen at hcm; omega) (fun j x hj => hcells j _ (by rw [List.getElem?_map, hj]; rfl))
    refine o_call_builtin (v := S l) (w' := w.freeze ⟨b, 0, none⟩ l.length) ?_ (hK _ (H.freeze hhs _))
    simp only [hx, hy, builtin, List.map_toArray, List.map_cons, List.map_nil, Sem.run_bind, hr, Result.andThen_ok, Sem.run_pure]; rfl
/-- a pointer as unsafe.Pointer, and back -/
theorem shape_of {E w : World} {ss : List (List Hp)} {b : Nat} {cs : Array Value} {T' : TypeId} {f : Nat × Nat} (H : Has E w ss) (hL : [Hp.one b (.cells cs T' f)] ⊆ ss.flatten) : w.shape? b = some (T', cs.size) := by
  have hg : w.heap[b]? = some (.cells cs T' f) := H.at (hL (List.mem_singleton.2 rfl)) (Hp.one_at _ _)
  simp [World.shape?, hg]
theorem o_toUnsafe {x : Operand} {t u te T' : TypeId} {b : Nat} {cs : Array Value} {f : Nat × Nat} {z : Value} {sz by_ : Nat} (ht : P.underlying t = some (.pointer te)) (hu : P.underlying u = some .unsafePointer) (hj : TI P te z sz by_) (hjs : sz ≠ 0) (hx : ρ x = .pointer (some ⟨b, 0, none⟩))
    (H : Has E w ss) (hL : [Hp.one b (.cells cs T' f)] ⊆ ss.flatten) (hc : 0 < cs.size) (h : K (.pointer (some ⟨b, 0, none⟩)) w) : OK P ⟨dst, .convert t u x, T, pos, after, g⟩ ρ w K := by
  obtain ⟨j, hj, _, hsz, _⟩ := hj
  exact OK.val (run_v (by rw [hx]; exact Lib.run_to_unsafe w ⟨b, 0, none⟩ ht hu hj (by rw [hsz]; exact hjs) (shape_of H hL) hc)) h
theorem o_fromUnsafe {x : Operand} {t u te T' : TypeId} {b : Nat} {cs : Array Value} {f : Nat × Nat} {z : Value} {sz by_ : Nat} (ht : P.underlying t = some .unsafePointer) (hu : P.underlying u = some (.pointer te)) (hj : TI P te z sz by_) (hx : ρ x = .pointer (some ⟨b, 0, none⟩))
    (H : Has E w ss) (hL : [Hp.one b (.cells cs T' f)] ⊆ ss.flatten) (hl : liesAt P P.depth T' (cs.size / P.cellsOf T') 0 te 1 = true) (h : K (.pointer (some ⟨b, 0, none⟩)) w) : OK P ⟨dst, .convert t u x, T, pos, after, g⟩ ρ w K := by
  obtain ⟨j, hj, _⟩ := hj
  exact OK.val (run_v (by rw [hx]; exact Lib.run_from_unsafe w ⟨b, 0, none⟩ ht hu hj (shape_of H hL) hl)) h
theorem o_extern {c x : Operand} {f : FuncId} {ts : Array TypeId} {v v' : Value} (hv : ρ c = .func (.func f) #[] #[]) (hx : ρ x = v) (hr : (callFunc f #[v]).run P w = .ok (.value v') w) (h : K v' w) :
    OK P ⟨dst, .call ⟨.value c, #[x], ts⟩, T, pos, after, g⟩ ρ w K := by
  refine OK.val ?_ h
  simp [execOp, resolve, hv, Deferred.ofValue, invoke, hx, hr]
theorem o_pneqSame {x y : Operand} {t te t2 : TypeId} {z : Value} {sz by_ : Nat} {a : Addr} (ht : P.underlying t = some (.pointer te)) (hj : TI P te z sz by_) (hx : ρ x = .pointer (some a)) (hy : ρ y = .pointer (some a)) (h : K (.bool false) w) :
    OK P ⟨dst, .binOp .neq t x y t2, T, pos, after, g⟩ ρ w K := by
  obtain ⟨j, hj, _⟩ := hj
  exact OK.val (run_v (by rw [hx, hy]; exact Lib.run_neq_ptr_same w a ht hj)) h
end
end Go.Q
namespace Go.Q
open Go.Proofs
set_option linter.unusedVariables false
set_option maxRecDepth 100000
attribute [local irreducible] wpList OK Code.wp
set_option maxHeartbeats 4000000 in
theorem cc_f {E w : World} {R : List Hp} {bb : Nat} {v : Value} (hH : Has E w [[Hp.one bb (.cells #[(.pointer none), v] 145 (0, 0))], R]) :
    Calls Tryz.prog 127 #[(.pointer (some ⟨bb, 0, none⟩))] w fun e w' => e = .returned (.tuple #[]) ∧ Has E w' [[Hp.one bb (.cells #[(.pointer (some ⟨bb, 0, none⟩)), v] 145 (0, 0))], R] := by
  refine c_enter (args := [(.pointer (some ⟨bb, 0, none⟩))]) Tryz.func127 rfl Tryz.ntmps127 (by simp) ?_
  refine wp_seq_k fun K1 hK1 => ?_
  refine c_region ?_
  refine s_op (o_move (v := (.pointer (some ⟨bb, 0, none⟩))) rfl ?_)
  refine s_op (o_nilCheck rfl ?_)
  refine s_op (o_fieldAddr (k := 0) (fun _ => by kernel_rfl) rfl ?_)
  refine s_op (o_load1 (v := (.pointer none)) Tryz.underlying143 rfl rfl hH (seg_sub 0 rfl) (CellsAt.one rfl) ?_)
  refine s_op (o_pnil (p := none) Tryz.underlying143 rfl rfl ?_)
  refine s_nil ?_
  refine t_norm (hK1 _ _ ?_)
  refine c_true rfl rfl ?_
  refine c_region ?_
  refine s_op (o_move (v := (.pointer (some ⟨bb, 0, none⟩))) rfl ?_)
  refine s_op (o_move (v := (.pointer (some ⟨bb, 0, none⟩))) rfl ?_)
  refine s_op (o_toUnsafe Tryz.underlying143 Tryz.underlying195 ti145 (by decide) rfl hH (seg_sub 0 rfl) (Nat.zero_lt_succ 1) ?_)
  refine s_op (o_extern (v' := (.pointer (some ⟨bb, 0, none⟩))) rfl rfl (by rw [run_callFunc_extern Tryz.func155 (by kernel_rfl) (by kernel_rfl) (by kernel_rfl) (e := Extern.AbiNoEscape.same) (by kernel_rfl), Lib.run_noEscape]; rfl) ?_)
  refine s_op (o_fromUnsafe Tryz.underlying195 Tryz.underlying143 ti145 rfl hH (seg_sub 0 rfl) (by kernel_rfl) ?_)
  refine s_op (o_nilCheck rfl ?_)
  refine s_op (o_fieldAddr (k := 0) (fun _ => by kernel_rfl) rfl ?_)
  refine s_eff (o_store1 (c' := #[(.pointer (some ⟨bb, 0, none⟩)), v]) ti143 rfl rfl rfl (by simp) rfl (hH.front 0 rfl) fun w2 hH3 => ?_)
  refine s_nil ?_
  refine c_end0 Tryz.results127  ?_
  exact ⟨rfl, hH3⟩
set_option maxHeartbeats 4000000 in
theorem cc_u {E w : World} {R : List Hp} {bb : Nat} {v : Value} (hH : Has E w [[Hp.one bb (.cells #[(.pointer (some ⟨bb, 0, none⟩)), v] 145 (0, 0))], R]) :
    Calls Tryz.prog 127 #[(.pointer (some ⟨bb, 0, none⟩))] w fun e w' => e = .returned (.tuple #[]) ∧ Has E w' [[Hp.one bb (.cells #[(.pointer (some ⟨bb, 0, none⟩)), v] 145 (0, 0))], R] := by
  refine c_enter (args := [(.pointer (some ⟨bb, 0, none⟩))]) Tryz.func127 rfl Tryz.ntmps127 (by simp) ?_
  refine wp_seq_k fun K1 hK1 => ?_
  refine c_region ?_
  refine s_op (o_move (v := (.pointer (some ⟨bb, 0, none⟩))) rfl ?_)
  refine s_op (o_nilCheck rfl ?_)
  refine s_op (o_fieldAddr (k := 0) (fun _ => by kernel_rfl) rfl ?_)
  refine s_op (o_load1 (v := (.pointer (some ⟨bb, 0, none⟩))) Tryz.underlying143 rfl rfl hH (seg_sub 0 rfl) (CellsAt.one rfl) ?_)
  refine s_op (o_pnil (p := some _) Tryz.underlying143 rfl rfl ?_)
  refine s_nil ?_
  refine t_norm (hK1 _ _ ?_)
  refine c_false rfl rfl ?_
  refine wp_seq_k fun K2 hK2 => ?_
  refine c_region ?_
  refine s_op (o_move (v := (.pointer (some ⟨bb, 0, none⟩))) rfl ?_)
  refine s_op (o_nilCheck rfl ?_)
  refine s_op (o_fieldAddr (k := 0) (fun _ => by kernel_rfl) rfl ?_)
  refine s_op (o_load1 (v := (.pointer (some ⟨bb, 0, none⟩))) Tryz.underlying143 rfl rfl hH (seg_sub 0 rfl) (CellsAt.one rfl) ?_)
  refine s_op (o_move (v := (.pointer (some ⟨bb, 0, none⟩))) rfl ?_)
  refine s_op (o_pneqSame Tryz.underlying143 ti145 rfl rfl ?_)
  refine s_nil ?_
  refine t_norm (hK2 _ _ ?_)
  refine c_false rfl rfl ?_
  refine wp_skip ?_
  refine c_end0 Tryz.results127  ?_
  exact ⟨rfl, hH⟩
set_option maxHeartbeats 4000000 in
theorem ws_f {E w : World} {R hs : List Hp} {bb : Nat} {v : Value} {l : List UInt8} (hH : Has E w [hs, [Hp.one bb (.cells #[(.pointer none), v] 145 (0, 0))], R]) (ho : Own 5 1 v l.length (l.map bV) hs) (hnil : l = [] → v = .slice none 0 0) (s : List UInt8) (hb : l.length + s.length ≤ 140737488355328) :
    Calls Tryz.prog 103 #[(.pointer (some ⟨bb, 0, none⟩)), (S s)] w fun e w' => ∃ v' hs', e = .returned (.tuple #[.int .i64 (s.length : Int), .nilIface]) ∧ Own 5 1 v' (l ++ s).length ((l ++ s).map bV) hs' ∧ (l ++ s = [] → v' = .slice none 0 0) ∧ Has E w' [hs', [Hp.one bb (.cells #[(.pointer (some ⟨bb, 0, none⟩)), v'] 145 (0, 0))], R] := by
  refine c_enter (args := [(.pointer (some ⟨bb, 0, none⟩)), (S s)]) Tryz.func103 rfl Tryz.ntmps103 (by simp) ?_
  refine wp_seq_k fun K1 hK1 => ?_
  refine c_region ?_
  refine s_op (o_assign (v := (.int .i64 0)) rfl ?_)
  refine s_op (o_assign (v := Value.nilIface) rfl ?_)
  refine s_nil ?_
  refine t_norm (hK1 _ _ ?_)
  refine wp_seq_k fun K2 hK2 => ?_
  refine c_region ?_
  refine s_op (o_move (v := (.pointer (some ⟨bb, 0, none⟩))) rfl ?_)
  refine s_op (o_callf (vs := #[(.pointer (some ⟨bb, 0, none⟩))]) ca127 rfl (args1 rfl) (cc_f (hH.front 1 rfl).all1) ?_)
  rintro _ w5 ⟨rfl, hX3⟩
  refine ⟨_, rfl, ?_⟩
  have hH4 : Has E w5 [[Hp.one bb (.cells #[(.pointer (some ⟨bb, 0, none⟩)), v] 145 (0, 0))], hs, R] := hX3.of_all1
  refine s_nil ?_
  refine t_norm (hK2 _ _ ?_)
  refine wp_seq_k fun K6 hK6 => ?_
  refine c_region ?_
  refine s_op (o_move (v := (.pointer (some ⟨bb, 0, none⟩))) rfl ?_)
  refine s_op (o_move (v := (.pointer (some ⟨bb, 0, none⟩))) rfl ?_)
  refine s_op (o_nilCheck rfl ?_)
  refine s_op (o_fieldAddr (k := 1) (fun _ => by kernel_rfl) rfl ?_)
  refine s_op (o_load1 (v := v) Tryz.underlying54 rfl rfl hH4 (seg_sub 0 rfl) (CellsAt.one rfl) ?_)
  refine s_op (o_move (v := (S s)) rfl ?_)
  refine s_op (o_appstr Tryz.underlying54 Tryz.underlying9 ti5 rfl ho rfl (hH4.front 1 rfl) (by omega) fun v7 s8 w11 ho9 hn10 hH12 => ?_)
  have ho9 : Own 5 1 v7 (l ++ s).length ((l ++ s).map bV) s8 := by rw [List.length_append, List.map_append]; exact ho9
  refine s_op (o_nilCheck rfl ?_)
  refine s_op (o_fieldAddr (k := 1) (fun _ => by kernel_rfl) rfl ?_)
  refine s_eff (o_store1 (c' := #[(.pointer (some ⟨bb, 0, none⟩)), v7]) ti54 rfl rfl ho9.one (by simp) rfl (hH12.front 1 rfl) fun w13 hH14 => ?_)
  refine s_nil ?_
  refine t_norm (hK6 _ _ ?_)
  refine wp_seq_k fun K15 hK15 => ?_
  refine c_region ?_
  refine s_op (o_move (v := (S s)) rfl ?_)
  refine s_op (o_slen Tryz.underlying9 rfl ?_)
  refine s_op (o_assign (v := (.int .i64 (s.length : Int))) rfl ?_)
  refine s_op (o_assign (v := Value.nilIface) rfl ?_)
  refine s_nil ?_
  refine t_norm (hK15 _ _ ?_)
  refine wp_ret ?_
  refine c_ret2 Tryz.results103  (v := (.int .i64 (s.length : Int))) rfl (x := Value.nilIface) rfl ?_
  have hH16 : Has E w13 [s8, [Hp.one bb (.cells #[(.pointer (some ⟨bb, 0, none⟩)), v7] 145 (0, 0))], R] := (((hH14.front 2 rfl).front 1 rfl).front 2 rfl).first 3 rfl
  exact ⟨_, _, rfl, ho9, fun h => hn10 (hnil (List.append_eq_nil_iff.1 h).1) (List.append_eq_nil_iff.1 h).2, hH16⟩
set_option maxHeartbeats 4000000 in
theorem ws_u {E w : World} {R hs : List Hp} {bb : Nat} {v : Value} {l : List UInt8} (hH : Has E w [hs, [Hp.one bb (.cells #[(.pointer (some ⟨bb, 0, none⟩)), v] 145 (0, 0))], R]) (ho : Own 5 1 v l.length (l.map bV) hs) (hnil : l = [] → v = .slice none 0 0) (s : List UInt8) (hb : l.length + s.length ≤ 140737488355328) :
    Calls Tryz.prog 103 #[(.pointer (some ⟨bb, 0, none⟩)), (S s)] w fun e w' => ∃ v' hs', e = .returned (.tuple #[.int .i64 (s.length : Int), .nilIface]) ∧ Own 5 1 v' (l ++ s).length ((l ++ s).map bV) hs' ∧ (l ++ s = [] → v' = .slice none 0 0) ∧ Has E w' [hs', [Hp.one bb (.cells #[(.pointer (some ⟨bb, 0, none⟩)), v'] 145 (0, 0))], R] := by
  refine c_enter (args := [(.pointer (some ⟨bb, 0, none⟩)), (S s)]) Tryz.func103 rfl Tryz.ntmps103 (by simp) ?_
  refine wp_seq_k fun K1 hK1 => ?_
  refine c_region ?_
  refine s_op (o_assign (v := (.int .i64 0)) rfl ?_)
  refine s_op (o_assign (v := Value.nilIface) rfl ?_)
  refine s_nil ?_
  refine t_norm (hK1 _ _ ?_)
  refine wp_seq_k fun K2 hK2 => ?_
  refine c_region ?_
  refine s_op (o_move (v := (.pointer (some ⟨bb, 0, none⟩))) rfl ?_)
  refine s_op (o_callf (vs := #[(.pointer (some ⟨bb, 0, none⟩))]) ca127 rfl (args1 rfl) (cc_u (hH.front 1 rfl).all1) ?_)
  rintro _ w5 ⟨rfl, hX3⟩
  refine ⟨_, rfl, ?_⟩
  have hH4 : Has E w5 [[Hp.one bb (.cells #[(.pointer (some ⟨bb, 0, none⟩)), v] 145 (0, 0))], hs, R] := hX3.of_all1
  refine s_nil ?_
  refine t_norm (hK2 _ _ ?_)
  refine wp_seq_k fun K6 hK6 => ?_
  refine c_region ?_
  refine s_op (o_move (v := (.pointer (some ⟨bb, 0, none⟩))) rfl ?_)
  refine s_op (o_move (v := (.pointer (some ⟨bb, 0, none⟩))) rfl ?_)
  refine s_op (o_nilCheck rfl ?_)
  refine s_op (o_fieldAddr (k := 1) (fun _ => by kernel_rfl) rfl ?_)
  refine s_op (o_load1 (v := v) Tryz.underlying54 rfl rfl hH4 (seg_sub 0 rfl) (CellsAt.one rfl) ?_)
  refine s_op (o_move (v := (S s)) rfl ?_)
  refine s_op (o_appstr Tryz.underlying54 Tryz.underlying9 ti5 rfl ho rfl (hH4.front 1 rfl) (by omega) fun v7 s8 w11 ho9 hn10 hH12 => ?_)
  have ho9 : Own 5 1 v7 (l ++ s).length ((l ++ s).map bV) s8 := by rw [List.length_append, List.map_append]; exact ho9
  refine s_op (o_nilCheck rfl ?_)
  refine s_op (o_fieldAddr (k := 1) (fun _ => by kernel_rfl) rfl ?_)
  refine s_eff (o_store1 (c' := #[(.pointer (some ⟨bb, 0, none⟩)), v7]) ti54 rfl rfl ho9.one (by simp) rfl (hH12.front 1 rfl) fun w13 hH14 => ?_)
  refine s_nil ?_
  refine t_norm (hK6 _ _ ?_)
  refine wp_seq_k fun K15 hK15 => ?_
  refine c_region ?_
  refine s_op (o_move (v := (S s)) rfl ?_)
  refine s_op (o_slen Tryz.underlying9 rfl ?_)
  refine s_op (o_assign (v := (.int .i64 (s.length : Int))) rfl ?_)
  refine s_op (o_assign (v := Value.nilIface) rfl ?_)
  refine s_nil ?_
  refine t_norm (hK15 _ _ ?_)
  refine wp_ret ?_
  refine c_ret2 Tryz.results103  (v := (.int .i64 (s.length : Int))) rfl (x := Value.nilIface) rfl ?_
  have hH16 : Has E w13 [s8, [Hp.one bb (.cells #[(.pointer (some ⟨bb, 0, none⟩)), v7] 145 (0, 0))], R] := (((hH14.front 2 rfl).front 1 rfl).front 2 rfl).first 3 rfl
  exact ⟨_, _, rfl, ho9, fun h => hn10 (hnil (List.append_eq_nil_iff.1 h).1) (List.append_eq_nil_iff.1 h).2, hH16⟩
/-- A builder that holds these bytes. -/
def Bld (b : Nat) (l : List UInt8) (sg : List Hp) : Prop := ∃ a v hs, sg = hs ++ [Hp.one b (.cells #[a, v] 145 (0, 0))] ∧ (a = .pointer none ∨ a = .pointer (some ⟨b, 0, none⟩)) ∧ Own 5 1 v l.length (l.map bV) hs ∧ (l = [] → v = .slice none 0 0)
theorem Bld.new (b : Nat) : Bld b [] [Hp.one b (.cells #[.pointer none, .slice none 0 0] 145 (0, 0))] := ⟨_, _, [], rfl, .inl rfl, Own.nil 5 1, fun _ => rfl⟩
theorem bws {E w : World} {R sg : List Hp} {b : Nat} {l : List UInt8} (hH : Has E w [sg, R]) (hB : Bld b l sg) (s : List UInt8) (hb : l.length + s.length ≤ 140737488355328) :
    Calls Tryz.prog 103 #[.pointer (some ⟨b, 0, none⟩), S s] w fun e w' => ∃ sg', e = .returned (.tuple #[.int .i64 (s.length : Int), .nilIface]) ∧ Bld b (l ++ s) sg' ∧ Has E w' [sg', R] := by
  obtain ⟨a, v, hs, rfl, rfl | rfl, ho, hn⟩ := hB
  · exact (ws_f hH.open2 ho hn s hb).mono fun e w' ⟨v', hs', he, ho', hn', hH'⟩ => ⟨_, he, ⟨_, _, _, rfl, .inr rfl, ho', hn'⟩, hH'.close2⟩
  · exact (ws_u hH.open2 ho hn s hb).mono fun e w' ⟨v', hs', he, ho', hn', hH'⟩ => ⟨_, he, ⟨_, _, _, rfl, .inr rfl, ho', hn'⟩, hH'.close2⟩
end Go.Q
namespace Go.Q
open Go.Proofs
set_option linter.unusedVariables false
set_option maxRecDepth 100000
attribute [local irreducible] wpList OK Code.wp
set_option maxHeartbeats 4000000 in
theorem bsK_nil {E w : World} {R : List Hp} {bb : Nat} {a : Value} (hH : Has E w [[Hp.one bb (.cells #[a, (.slice none 0 0)] 145 (0, 0))], R]) :
    Calls Tryz.prog 104 #[(.pointer (some ⟨bb, 0, none⟩))] w fun e w' => e = .returned (S ([] : List UInt8)) ∧ Has E w' [[Hp.one bb (.cells #[a, (.slice none 0 0)] 145 (0, 0))], R] := by
  refine c_enter (args := [(.pointer (some ⟨bb, 0, none⟩))]) Tryz.func104 rfl Tryz.ntmps104 (by simp) ?_
  refine wp_seq_k fun K1 hK1 => ?_
  refine c_region ?_
  refine s_op (o_assign (v := (S ([] : List UInt8))) rfl ?_)
  refine s_nil ?_
  refine t_norm (hK1 _ _ ?_)
  refine wp_seq_k fun K2 hK2 => ?_
  refine Rest.region mixed (by kernel_rfl) ?_
  have hH3 : Has E { w with drawn := w.drawn + 1 } [[Hp.one bb (.cells #[a, (.slice none 0 0)] 145 (0, 0))], R] := Has0.drew hH _
  refine Rest.phaseA (fun w_ => Has E w_ [[Hp.one bb (.cells #[a, (.slice none 0 0)] 145 (0, 0))]]) 0 10 10 rfl (by decide) (by kernel_rfl) ?_
  refine a_op 0 rfl (by kernel_rfl) (fun w_ h_ => o_move (v := (.pointer (some ⟨bb, 0, none⟩))) rfl ⟨rfl, rfl⟩) ?_
  refine a_op 1 rfl (by kernel_rfl) (fun w_ h_ => o_nilCheck rfl ⟨rfl, rfl⟩) ?_
  refine a_op 2 rfl (by kernel_rfl) (fun w_ h_ => o_fieldAddr (k := 1) (fun _ => by kernel_rfl) rfl ⟨rfl, rfl⟩) ?_
  refine a_op 3 rfl (by kernel_rfl) (fun w_ h_ => o_load1 (v := (.slice none 0 0)) Tryz.underlying54 rfl rfl h_ (seg_sub 0 rfl) (CellsAt.one rfl) ⟨rfl, rfl⟩) ?_
  refine a_op 5 rfl (by kernel_rfl) (fun w_ h_ => o_move (v := (.pointer (some ⟨bb, 0, none⟩))) rfl ⟨rfl, rfl⟩) ?_
  refine a_op 6 rfl (by kernel_rfl) (fun w_ h_ => o_nilCheck rfl ⟨rfl, rfl⟩) ?_
  refine a_op 7 rfl (by kernel_rfl) (fun w_ h_ => o_fieldAddr (k := 1) (fun _ => by kernel_rfl) rfl ⟨rfl, rfl⟩) ?_
  refine a_op 8 rfl (by kernel_rfl) (fun w_ h_ => o_load1 (v := (.slice none 0 0)) Tryz.underlying54 rfl rfl h_ (seg_sub 0 rfl) (CellsAt.one rfl) ⟨rfl, rfl⟩) ?_
  refine a_op 9 rfl (by kernel_rfl) (fun w_ h_ => o_lenS Tryz.underlying54 rfl (sl_nil (L := []) 1) ⟨rfl, rfl⟩) ?_
  have hH4 : Has E { w with drawn := w.drawn + 1 } [[Hp.one bb (.cells #[a, (.slice none 0 0)] 145 (0, 0))]] := hH3.first 1 rfl
  refine a_w 4 rfl (by kernel_rfl) hH4 (o_uSDnil rfl ?_)
  have hH5 : Has E { w with drawn := w.drawn + 1 } [[Hp.one bb (.cells #[a, (.slice none 0 0)] 145 (0, 0))]] := hH3.first 1 rfl
  refine a_done (by kernel_rfl) hH5 ?_
  refine r_op 10 rfl (by kernel_rfl) (o_uStrNil rfl rfl ?_)
  refine r_op 11 rfl (by kernel_rfl) (o_assign (v := (S ([] : List UInt8))) rfl ?_)
  refine Rest.done (by kernel_rfl) ?_
  refine t_norm (hK2 _ _ ?_)
  refine wp_ret ?_
  refine c_ret1 Tryz.results104  (v := (S ([] : List UInt8))) rfl ?_
  exact ⟨rfl, hH3⟩
set_option maxHeartbeats 4000000 in
theorem bsK_row {E w : World} {R : List Hp} {bb : Nat} {a : Value} {g cap : Nat} {hs : List Hp} {l : List UInt8} (hH : Has E w [hs, [Hp.one bb (.cells #[a, (.slice (some ⟨g, 0, none⟩) l.length cap)] 145 (0, 0))], R]) (ho : Own 5 1 (.slice (some ⟨g, 0, none⟩) l.length cap) l.length (l.map bV) hs) (hne : l ≠ []) (hcap : cap ≠ 0) :
    Calls Tryz.prog 104 #[(.pointer (some ⟨bb, 0, none⟩))] w fun e w' => e = .returned (S l) ∧ Has E w' [[Hp.one bb (.cells #[a, (.slice (some ⟨g, 0, none⟩) l.length cap)] 145 (0, 0))], R] := by
  refine c_enter (args := [(.pointer (some ⟨bb, 0, none⟩))]) Tryz.func104 rfl Tryz.ntmps104 (by simp) ?_
  refine wp_seq_k fun K1 hK1 => ?_
  refine c_region ?_
  refine s_op (o_assign (v := (S ([] : List UInt8))) rfl ?_)
  refine s_nil ?_
  refine t_norm (hK1 _ _ ?_)
  refine wp_seq_k fun K2 hK2 => ?_
  refine Rest.region mixed (by kernel_rfl) ?_
  have hH3 : Has E { w with drawn := w.drawn + 1 } [hs, [Hp.one bb (.cells #[a, (.slice (some ⟨g, 0, none⟩) l.length cap)] 145 (0, 0))], R] := Has0.drew hH _
  refine Rest.phaseA (fun w_ => Has E w_ [[Hp.one bb (.cells #[a, (.slice (some ⟨g, 0, none⟩) l.length cap)] 145 (0, 0))]]) 0 10 10 rfl (by decide) (by kernel_rfl) ?_
  refine a_op 0 rfl (by kernel_rfl) (fun w_ h_ => o_move (v := (.pointer (some ⟨bb, 0, none⟩))) rfl ⟨rfl, rfl⟩) ?_
  refine a_op 1 rfl (by kernel_rfl) (fun w_ h_ => o_nilCheck rfl ⟨rfl, rfl⟩) ?_
  refine a_op 2 rfl (by kernel_rfl) (fun w_ h_ => o_fieldAddr (k := 1) (fun _ => by kernel_rfl) rfl ⟨rfl, rfl⟩) ?_
  refine a_op 3 rfl (by kernel_rfl) (fun w_ h_ => o_load1 (v := (.slice (some ⟨g, 0, none⟩) l.length cap)) Tryz.underlying54 rfl rfl h_ (seg_sub 0 rfl) (CellsAt.one rfl) ⟨rfl, rfl⟩) ?_
  refine a_op 5 rfl (by kernel_rfl) (fun w_ h_ => o_move (v := (.pointer (some ⟨bb, 0, none⟩))) rfl ⟨rfl, rfl⟩) ?_
  refine a_op 6 rfl (by kernel_rfl) (fun w_ h_ => o_nilCheck rfl ⟨rfl, rfl⟩) ?_
  refine a_op 7 rfl (by kernel_rfl) (fun w_ h_ => o_fieldAddr (k := 1) (fun _ => by kernel_rfl) rfl ⟨rfl, rfl⟩) ?_
  refine a_op 8 rfl (by kernel_rfl) (fun w_ h_ => o_load1 (v := (.slice (some ⟨g, 0, none⟩) l.length cap)) Tryz.underlying54 rfl rfl h_ (seg_sub 0 rfl) (CellsAt.one rfl) ⟨rfl, rfl⟩) ?_
  refine a_op 9 rfl (by kernel_rfl) (fun w_ h_ => o_lenS Tryz.underlying54 rfl ho.sl ⟨rfl, rfl⟩) ?_
  have hH4 : Has E { w with drawn := w.drawn + 1 } [[Hp.one bb (.cells #[a, (.slice (some ⟨g, 0, none⟩) l.length cap)] 145 (0, 0))]] := (hH3.front 1 rfl).first 1 rfl
  refine a_w 4 rfl (by kernel_rfl) hH4 (o_uSD (a := ⟨g, 0, none⟩) rfl hcap ?_)
  have hH5 : Has E { w with drawn := w.drawn + 1 } [[Hp.one bb (.cells #[a, (.slice (some ⟨g, 0, none⟩) l.length cap)] 145 (0, 0))]] := (hH3.front 1 rfl).first 1 rfl
  refine a_done (by kernel_rfl) hH5 ?_
  refine r_op 10 rfl (by kernel_rfl) (o_uStr Tryz.underlying172 (by kernel_rfl) rfl rfl ho hne hH3 fun w6 hH7 => ?_)
  refine r_op 11 rfl (by kernel_rfl) (o_assign (v := (S l)) rfl ?_)
  refine Rest.done (by kernel_rfl) ?_
  refine t_norm (hK2 _ _ ?_)
  refine wp_ret ?_
  refine c_ret1 Tryz.results104  (v := (S l)) rfl ?_
  exact ⟨rfl, hH7⟩
set_option maxHeartbeats 4000000 in
theorem blenb {E w : World} {R : List Hp} {bb n c : Nat} {a : Value} {p : Option Addr} (hH : Has E w [[Hp.one bb (.cells #[a, (.slice p n c)] 145 (0, 0))], R]) :
    Calls Tryz.prog 120 #[(.pointer (some ⟨bb, 0, none⟩))] w fun e w' => e = .returned (.int .i64 (n : Int)) ∧ Has E w' [[Hp.one bb (.cells #[a, (.slice p n c)] 145 (0, 0))], R] := by
  refine c_enter (args := [(.pointer (some ⟨bb, 0, none⟩))]) Tryz.func120 rfl Tryz.ntmps120 (by simp) ?_
  refine wp_seq_k fun K1 hK1 => ?_
  refine c_region ?_
  refine s_op (o_assign (v := (.int .i64 0)) rfl ?_)
  refine s_nil ?_
  refine t_norm (hK1 _ _ ?_)
  refine wp_seq_k fun K2 hK2 => ?_
  refine c_region ?_
  refine s_op (o_move (v := (.pointer (some ⟨bb, 0, none⟩))) rfl ?_)
  refine s_op (o_nilCheck rfl ?_)
  refine s_op (o_fieldAddr (k := 1) (fun _ => by kernel_rfl) rfl ?_)
  refine s_op (o_load1 (v := (.slice p n c)) Tryz.underlying54 rfl rfl hH (seg_sub 0 rfl) (CellsAt.one rfl) ?_)
  refine s_op (o_len Tryz.underlying54 rfl ?_)
  refine s_op (o_assign (v := (.int .i64 (n : Int))) rfl ?_)
  refine s_nil ?_
  refine t_norm (hK2 _ _ ?_)
  refine wp_ret ?_
  refine c_ret1 Tryz.results120  (v := (.int .i64 (n : Int))) rfl ?_
  exact ⟨rfl, hH⟩
theorem bstrK {E w : World} {R sg : List Hp} {b : Nat} {l : List UInt8} (hH : Has E w [sg, R]) (hB : Bld b l sg) :
    Calls Tryz.prog 104 #[.pointer (some ⟨b, 0, none⟩)] w fun e w' => ∃ a p c, e = .returned (S l) ∧ Has E w' [[Hp.one b (.cells #[a, .slice p l.length c] 145 (0, 0))], R] := by
  obtain ⟨a, v, hs, rfl, _, ho, hn⟩ := hB
  by_cases hl : l = []
  · obtain rfl := hn hl
    subst hl
    exact (bsK_nil hH.open2.drop).mono fun e w' ⟨he, hH'⟩ => ⟨a, none, 0, he, hH'⟩
  · have ho2 := ho
    obtain ⟨hlc, ⟨_, h, _⟩ | ⟨g, cap, cur, rfl, rfl, hnc, _⟩⟩ := ho
    · exact absurd (List.eq_nil_of_length_eq_zero h) hl
    · exact (bsK_row hH.open2 ho2 hl (fun e => hl (List.eq_nil_of_length_eq_zero (by omega)))).mono fun e w' ⟨he, hH'⟩ => ⟨a, _, cap, he, hH'⟩
end Go.Q
namespace Go.Q
open Go.Proofs
set_option linter.unusedVariables false
set_option maxRecDepth 100000
attribute [local irreducible] wpList OK Code.wp
set_option maxHeartbeats 4000000 in
theorem refPut_c {E w : World} {R : List Hp} (hH : Has E w [R]) (m : Nat) (hm : 1 ≤ m ∧ m ≤ 8) (n : Int) (hn : -9223372036854775808 ≤ n ∧ n ≤ 9223372036854775807) :
    Calls Tryz.prog 135 #[(.int .i64 (m : Int)), (.int .i64 n)] w fun e w' => ∃ t : List UInt8, e = .returned (.tuple #[S t, .bool (fitsS n m)]) ∧ t.length = m ∧ (fitsS n m = true → t = beFrom n m) ∧ Has E w' [R] := by
  refine c_enter (args := [(.int .i64 (m : Int)), (.int .i64 n)]) Tryz.func135 rfl Tryz.ntmps135 (by simp) ?_
  refine wp_seq_k fun K1 hK1 => ?_
  refine c_region ?_
  refine s_op (o_assign (v := (S ([] : List UInt8))) rfl ?_)
  refine s_op (o_assign (v := (.bool false)) rfl ?_)
  refine s_nil ?_
  refine t_norm (hK1 _ _ ?_)
  refine wp_seq_k fun K2 hK2 => ?_
  refine c_region ?_
  refine s_op (o_assign (v := (.slice none 0 0)) rfl ?_)
  refine s_nil ?_
  refine t_norm (hK2 _ _ ?_)
  refine wp_seq_k fun K3 hK3 => ?_
  refine wp_seq_k fun K4 hK4 => ?_
  refine c_region ?_
  refine s_op (o_assign (v := (.int .i64 0)) rfl ?_)
  refine s_nil ?_
  refine t_norm (hK4 _ _ ?_)
  refine wp_block ?_
  let I6 : Nat → (Nat → Value) → World → Prop := fun n__ r__ w__ => ∃ (k : Nat) (vb : Value) (hs : List Hp) (lb : List UInt8), n__ = m - k ∧ Has E w__ [hs, R] ∧ (k ≤ m) ∧ (Own 5 1 vb lb.length (lb.map bV) hs) ∧ (lb = List.replicate k 0) ∧ (lb.length = k) ∧ r__ 0 = (.int .i64 (m : Int)) ∧ r__ 1 = (.int .i64 n) ∧ r__ 4 = (S ([] : List UInt8)) ∧ r__ 5 = (.bool false) ∧ r__ 6 = vb ∧ r__ 7 = (.int .i64 (k : Int))
  have hH7 : Has E w [[], R] := (Has.nil hH).first 2 rfl
  refine c_loop I6 _ ⟨0, (.slice none 0 0), [], [], rfl, hH7, Nat.zero_le _, Own.nil 5 1, rfl, rfl, rfl, rfl, rfl, rfl, rfl, rfl⟩ ?_
  rintro n_ r10 w8 ⟨k, vb, hs, lb, rfl, hH9, hk, hob, hlb, hll, e5_0, e5_1, e5_4, e5_5, e5_6, e5_7⟩
  refine wp_seq_k fun K11 hK11 => ?_
  refine wp_seq_k fun K12 hK12 => ?_
  refine c_region ?_
  refine s_op (o_move (v := (.int .i64 (k : Int))) e5_7 ?_)
  refine s_op (o_move (v := (.int .i64 (m : Int))) e5_0 ?_)
  refine s_op (o_lss (a := (k : Int)) (b := (m : Int)) rfl rfl ?_)
  refine s_nil ?_
  refine t_norm (hK12 _ _ ?_)
  refine c_cond rfl (fun h13 => ?_) (fun h13 => ?_)
  · -- (k : Int) < (m : Int)
    refine wp_skip ?_
    refine t_norm (hK11 _ _ ?_)
    refine wp_seq_k fun K14 hK14 => ?_
    refine wp_block ?_
    refine c_region ?_
    refine s_op (o_move (v := vb) e5_6 ?_)
    refine s_op (o_buildSlice (ps := #[(0, (.int .u8 0))]) (cells := #[(.int .u8 0)]) Tryz.underlying54 ti5 (by decide) (parts1 rfl) (by kernel_rfl) hH9 fun b15 w16 hH17 => ?_)
    refine s_op (o_append Tryz.underlying54 ti5 rfl (by decide) rfl hob rfl (sl_lit (f := bV) (l := [(0 : UInt8)]) rfl rfl (by simp)) (hH17.front 1 rfl) (seg_sub 0 rfl) (one_bV _) (by simp; omega) (by simp; omega) fun v18 s19 w21 ho20 hH22 => ?_)
    have ho20 : Own 5 1 v18 (lb ++ [(0 : UInt8)]).length ((lb ++ [(0 : UInt8)]).map bV) s19 := ho20.app
    refine s_op (o_assign (v := v18) rfl ?_)
    refine s_nil ?_
    refine b_norm ?_
    refine t_norm (hK14 _ _ ?_)
    refine c_region ?_
    refine s_op (o_move (v := (.int .i64 (k : Int))) e5_7 ?_)
    refine s_op (o_add (a := (k : Int)) (b := 1) rfl rfl (w64 (by omega) (by omega)) ?_)
    refine s_op (o_assign (v := (.int .i64 ((k : Int) + 1))) rfl ?_)
    refine s_nil ?_
    have hH23 : Has E w21 [s19, R] := ((hH22.front 2 rfl).front 1 rfl).first 2 rfl
    refine t_norm ⟨m - (k + 1), _, rfl, ?_, ?_⟩
    · omega
    · exact ⟨(k + 1), v18, s19, (lb ++ [(0 : UInt8)]), rfl, hH23, (by omega), (ho20), (by rw [hlb, List.replicate_succ']), (by simp; omega), e5_0, e5_1, e5_4, e5_5, rfl, rfl⟩
  · -- not: (k : Int) < (m : Int)
    refine wp_exit ?_
    refine t_exit (t_exit (x_in (?_)))
    refine t_norm (hK3 _ _ ?_)
    refine wp_seq_k fun K24 hK24 => ?_
    refine wp_seq_k fun K25 hK25 => ?_
    refine c_region ?_
    refine s_op (o_move (v := (.int .i64 (m : Int))) e5_0 ?_)
    refine s_op (o_sub (a := (m : Int)) (b := 1) rfl rfl (w64 (by omega) (by omega)) ?_)
    refine s_op (o_assign (v := (.int .i64 ((m : Int) - 1))) rfl ?_)
    refine s_nil ?_
    refine t_norm (hK25 _ _ ?_)
    refine wp_block ?_
    let I27 : Nat → (Nat → Value) → World → Prop := fun n__ r__ w__ => ∃ (j : Nat) (i : Int) (y : Int) (hs2 : List Hp) (lc : List UInt8), n__ = j + 1 ∧ Has E w__ [hs2, R] ∧ (j ≤ m) ∧ (i = (j : Int) - 1) ∧ (Own 5 1 vb lc.length (lc.map bV) hs2) ∧ (lc = List.replicate j 0 ++ beFrom n (m - j)) ∧ (0 ≤ n → y = n / ((256 ^ (m - j) : Nat) : Int)) ∧ (n < 0 → j = m ∧ y = n) ∧ (lc.length = m) ∧ (-9223372036854775808 ≤ y ∧ y ≤ 9223372036854775807) ∧ r__ 0 = (.int .i64 (m : Int)) ∧ r__ 1 = (.int .i64 y) ∧ r__ 4 = (S ([] : List UInt8)) ∧ r__ 5 = (.bool false) ∧ r__ 6 = vb ∧ r__ 7 = (.int .i64 (k : Int)) ∧ r__ 8 = (.int .i64 i) ∧ r__ 11 = (.bool (decide ((k : Int) < (m : Int))))
    refine c_loop I27 _ ⟨m, ((m : Int) - 1), n, hs, lb, rfl, hH9, Nat.le_refl _, rfl, hob, (by rw [hlb, show k = m from by omega, Nat.sub_self]; simp [beFrom]), (by intro _; rw [Nat.sub_self]; simp), fun _ => ⟨rfl, rfl⟩, (by omega), hn, e5_0, e5_1, e5_4, e5_5, e5_6, e5_7, rfl, rfl⟩ ?_
    rintro n_ r30 w28 ⟨j, i, y, hs2, lc, rfl, hH29, hj, hi, hoc, hlc, hy, hneg, hlen, hyr, e26_0, e26_1, e26_4, e26_5, e26_6, e26_7, e26_8, e26_11⟩
    refine wp_seq_k fun K31 hK31 => ?_
    refine wp_seq_k fun K32 hK32 => ?_
    refine c_region ?_
    refine s_op (o_move (v := (.int .i64 i)) e26_8 ?_)
    refine s_op (o_geq (a := i) (b := 0) rfl rfl ?_)
    refine s_op (o_move (v := (.bool (decide (0 ≤ i)))) rfl ?_)
    by_cases h33 : 0 ≤ i
    · -- 0 ≤ i
      refine s_on 21 rfl (congrArg Value.bool (decide_eq_true h33)) (o_move (v := (.int .i64 y)) e26_1 ?_)
      refine s_on 21 rfl (congrArg Value.bool (decide_eq_true h33)) (o_gtr (a := y) (b := 0) rfl rfl ?_)
      refine s_op (o_pick_t (u := (.bool (decide (0 < y)))) ((rfl : _ = _).trans (congrArg Value.bool (decide_eq_true h33))) rfl ?_)
      refine s_nil ?_
      refine t_norm (hK32 _ _ ?_)
      refine c_cond rfl (fun h34 => ?_) (fun h34 => ?_)
      · -- 0 < y
        refine wp_skip ?_
        refine t_norm (hK31 _ _ ?_)
        refine wp_seq_k fun K35 hK35 => ?_
        refine wp_block ?_
        refine wp_seq_k fun K36 hK36 => ?_
        refine c_region ?_
        refine s_op (o_move (v := vb) e26_6 ?_)
        refine s_op (o_move (v := (.int .i64 i)) e26_8 ?_)
        refine s_op (o_move (v := (.int .i64 y)) e26_1 ?_)
        refine s_op (o_rem (a := y) (b := 256) (c := y % 256) rfl rfl (by omega) ((Int.tmod_eq_emod_of_nonneg (by first | exact Int.natCast_nonneg _ | omega))) ?_)
        refine s_op (o_conv (c := ((by8 (y % 256)).toNat : Int)) Tryz.underlying3 Tryz.underlying5 rfl (wrap_by8 _) ?_)
        refine s_op (o_ownAddr Tryz.underlying54 ti5 rfl hoc rfl (by omega) (by first | omega | (simp only [List.length_append, List.length_cons, List.length_nil, List.length_set]; omega)) fun b37 ho38 => ?_)
        refine s_eff (o_ownStore (f := bV) (l := lc) (a := (by8 (y % 256))) ti5 rfl rfl rfl ho38 (by first | omega | (simp only [List.length_append, List.length_cons, List.length_nil, List.length_set]; omega)) hH29 fun s39 w40 ho41 hH42 => ?_)
        refine s_nil ?_
        refine t_norm (hK36 _ _ ?_)
        refine c_region ?_
        refine s_op (o_move (v := (.int .i64 y)) e26_1 ?_)
        refine s_op (o_quo (a := y) (b := 256) (c := y / 256) rfl rfl (by omega) (by rw [(Int.tdiv_eq_ediv_of_nonneg (by first | exact Int.natCast_nonneg _ | omega))]; exact w64 (by omega) (by omega)) ?_)
        refine s_op (o_assign (v := (.int .i64 (y / 256))) rfl ?_)
        refine s_nil ?_
        refine b_norm ?_
        refine t_norm (hK35 _ _ ?_)
        refine c_region ?_
        refine s_op (o_move (v := (.int .i64 i)) e26_8 ?_)
        refine s_op (o_sub (a := i) (b := 1) rfl rfl (w64 (by omega) (by omega)) ?_)
        refine s_op (o_assign (v := (.int .i64 (i - 1))) rfl ?_)
        refine s_nil ?_
        refine t_norm ⟨(j - 1) + 1, _, rfl, ?_, ?_⟩
        · omega
        · exact ⟨(j - 1), (i - 1), (y / 256), s39, (lc.set ((i).toNat) (by8 (y % 256))), rfl, hH42, (by omega), (by omega), (ho41), (refput_set hlc (by omega) (by omega) hi hy (by omega)), (refput_div hy (by omega) (by omega)), (by omega), (by simp; omega), (by omega), e26_0, rfl, e26_4, e26_5, e26_6, e26_7, rfl, e26_11⟩
      · -- not: 0 < y
        refine wp_exit ?_
        refine t_exit (t_exit (x_in (?_)))
        refine t_norm (hK24 _ _ ?_)
        refine wp_seq_k fun K43 hK43 => ?_
        refine c_region ?_
        refine s_op (o_move (v := vb) e26_6 ?_)
        refine s_op (o_bstr Tryz.underlying54 Tryz.underlying5 Tryz.underlying9 rfl hoc.sl hH29 (seg_sub 0 rfl) ?_)
        refine s_op (o_move (v := (.int .i64 y)) e26_1 ?_)
        refine s_op (o_eql (a := y) (b := 0) rfl rfl ?_)
        refine s_op (o_assign (v := (S lc)) rfl ?_)
        refine s_op (o_assign (v := (.bool (decide (y = 0)))) rfl ?_)
        refine s_nil ?_
        refine t_norm (hK43 _ _ ?_)
        refine wp_ret ?_
        refine c_ret2 Tryz.results135  (v := (S lc)) rfl (x := (.bool (decide (y = 0)))) rfl ?_
        have hH44 : Has E w28 [R] := (hH29.front 1 rfl).first 1 rfl
        exact ⟨lc, by rw [show decide (y = 0) = fitsS n m from refput_ok hm hn hj hy hneg (by omega)], hlen, refput_be hm hn hj hlc hy hneg (by omega), hH44⟩
    · -- not: 0 ≤ i
      refine s_off (b' := false) 21 rfl (congrArg Value.bool (decide_eq_false h33)) rfl ?_
      refine s_off (b' := false) 21 rfl (congrArg Value.bool (decide_eq_false h33)) rfl ?_
      refine s_op (o_pick_f (u := (.bool false)) ((rfl : _ = _).trans (congrArg Value.bool (decide_eq_false h33))) rfl ?_)
      refine s_nil ?_
      refine t_norm (hK32 _ _ ?_)
      refine c_false rfl rfl ?_
      refine wp_exit ?_
      refine t_exit (t_exit (x_in (?_)))
      refine t_norm (hK24 _ _ ?_)
      refine wp_seq_k fun K45 hK45 => ?_
      refine c_region ?_
      refine s_op (o_move (v := vb) e26_6 ?_)
      refine s_op (o_bstr Tryz.underlying54 Tryz.underlying5 Tryz.underlying9 rfl hoc.sl hH29 (seg_sub 0 rfl) ?_)
      refine s_op (o_move (v := (.int .i64 y)) e26_1 ?_)
      refine s_op (o_eql (a := y) (b := 0) rfl rfl ?_)
      refine s_op (o_assign (v := (S lc)) rfl ?_)
      refine s_op (o_assign (v := (.bool (decide (y = 0)))) rfl ?_)
      refine s_nil ?_
      refine t_norm (hK45 _ _ ?_)
      refine wp_ret ?_
      refine c_ret2 Tryz.results135  (v := (S lc)) rfl (x := (.bool (decide (y = 0)))) rfl ?_
      have hH46 : Has E w28 [R] := (hH29.front 1 rfl).first 1 rfl
      exact ⟨lc, by rw [show decide (y = 0) = fitsS n m from refput_ok hm hn hj hy hneg (by omega)], hlen, refput_be hm hn hj hlc hy hneg (by omega), hH46⟩
set_option maxHeartbeats 4000000 in
theorem refTake_c {E w : World} {R : List Hp} (hH : Has E w [R]) (m : Nat) (s : List UInt8) (hsl : s.length ≤ 9223372036854775807) :
    Calls Tryz.prog 70 #[(S s), (.int .i64 (m : Int))] w fun e w' => e = .returned (.tuple #[.int .i64 (takeS s m).1, .bool (takeS s m).2.2]) ∧ Has E w' [R] := by
  refine c_enter (args := [(S s), (.int .i64 (m : Int))]) Tryz.func70 rfl Tryz.ntmps70 (by simp) ?_
  refine wp_seq_k fun K1 hK1 => ?_
  refine c_region ?_
  refine s_op (o_assign (v := (.int .i64 0)) rfl ?_)
  refine s_op (o_assign (v := (.bool false)) rfl ?_)
  refine s_nil ?_
  refine t_norm (hK1 _ _ ?_)
  refine wp_seq_k fun K2 hK2 => ?_
  refine wp_seq_k fun K3 hK3 => ?_
  refine c_region ?_
  refine s_op (o_move (v := (.int .i64 (m : Int))) rfl ?_)
  refine s_op (o_lss (a := (m : Int)) (b := 1) rfl rfl ?_)
  refine s_op (o_move (v := (.bool (decide ((m : Int) < 1)))) rfl ?_)
  by_cases h4 : (m : Int) < 1
  · -- (m : Int) < 1
    refine s_off (b' := true) 10 rfl (congrArg Value.bool (decide_eq_true h4)) rfl ?_
    refine s_off (b' := true) 10 rfl (congrArg Value.bool (decide_eq_true h4)) rfl ?_
    refine s_op (o_pick_t (u := (.bool true)) ((rfl : _ = _).trans (congrArg Value.bool (decide_eq_true h4))) rfl ?_)
    refine s_op (o_move (v := (.bool true)) rfl ?_)
    refine s_off (b' := true) 14 rfl rfl rfl ?_
    refine s_off (b' := true) 14 rfl rfl rfl ?_
    refine s_off (b' := true) 14 rfl rfl rfl ?_
    refine s_off (b' := true) 14 rfl rfl rfl ?_
    refine s_op (o_pick_t (u := (.bool true)) rfl rfl ?_)
    refine s_op (o_move (v := (.bool true)) rfl ?_)
    refine s_off (b' := true) 20 rfl rfl rfl ?_
    refine s_off (b' := true) 20 rfl rfl rfl ?_
    refine s_off (b' := true) 20 rfl rfl rfl ?_
    refine s_offu 23 rfl rfl ?_
    refine s_offu 23 rfl rfl ?_
    refine s_offu 23 rfl rfl ?_
    refine s_off (b' := true) 20 rfl rfl rfl ?_
    refine s_op (o_pick_t (u := (.bool true)) rfl rfl ?_)
    refine s_nil ?_
    refine t_norm (hK3 _ _ ?_)
    refine c_true rfl rfl ?_
    refine wp_seq_k fun K5 hK5 => ?_
    refine c_region ?_
    refine s_op (o_assign (v := (.int .i64 0)) rfl ?_)
    refine s_op (o_assign (v := (.bool false)) rfl ?_)
    refine s_nil ?_
    refine t_norm (hK5 _ _ ?_)
    refine wp_ret ?_
    refine t_ret (c_ret2 Tryz.results70  (v := (.int .i64 0)) rfl (x := (.bool false)) rfl ?_)
    exact ⟨by rw [takeS_no (by first | exact .inl (by omega) | exact .inr (.inl (by omega)) | exact .inr (.inr ⟨by omega, 0, by simpa using rfl, by omega⟩))], hH⟩
  · -- not: (m : Int) < 1
    refine s_on 10 rfl (congrArg Value.bool (decide_eq_false h4)) (o_move (v := (.int .i64 (m : Int))) rfl ?_)
    refine s_on 10 rfl (congrArg Value.bool (decide_eq_false h4)) (o_gtr (a := (m : Int)) (b := 8) rfl rfl ?_)
    refine s_op (o_pick_f (u := (.bool (decide (8 < (m : Int))))) ((rfl : _ = _).trans (congrArg Value.bool (decide_eq_false h4))) rfl ?_)
    refine s_op (o_move (v := (.bool (decide (8 < (m : Int))))) rfl ?_)
    by_cases h6 : 8 < (m : Int)
    · -- 8 < (m : Int)
      refine s_off (b' := true) 14 rfl (congrArg Value.bool (decide_eq_true h6)) rfl ?_
      refine s_off (b' := true) 14 rfl (congrArg Value.bool (decide_eq_true h6)) rfl ?_
      refine s_off (b' := true) 14 rfl (congrArg Value.bool (decide_eq_true h6)) rfl ?_
      refine s_off (b' := true) 14 rfl (congrArg Value.bool (decide_eq_true h6)) rfl ?_
      refine s_op (o_pick_t (u := (.bool true)) ((rfl : _ = _).trans (congrArg Value.bool (decide_eq_true h6))) rfl ?_)
      refine s_op (o_move (v := (.bool true)) rfl ?_)
      refine s_off (b' := true) 20 rfl rfl rfl ?_
      refine s_off (b' := true) 20 rfl rfl rfl ?_
      refine s_off (b' := true) 20 rfl rfl rfl ?_
      refine s_offu 23 rfl rfl ?_
      refine s_offu 23 rfl rfl ?_
      refine s_offu 23 rfl rfl ?_
      refine s_off (b' := true) 20 rfl rfl rfl ?_
      refine s_op (o_pick_t (u := (.bool true)) rfl rfl ?_)
      refine s_nil ?_
      refine t_norm (hK3 _ _ ?_)
      refine c_true rfl rfl ?_
      refine wp_seq_k fun K7 hK7 => ?_
      refine c_region ?_
      refine s_op (o_assign (v := (.int .i64 0)) rfl ?_)
      refine s_op (o_assign (v := (.bool false)) rfl ?_)
      refine s_nil ?_
      refine t_norm (hK7 _ _ ?_)
      refine wp_ret ?_
      refine t_ret (c_ret2 Tryz.results70  (v := (.int .i64 0)) rfl (x := (.bool false)) rfl ?_)
      exact ⟨by rw [takeS_no (by first | exact .inl (by omega) | exact .inr (.inl (by omega)) | exact .inr (.inr ⟨by omega, 0, by simpa using rfl, by omega⟩))], hH⟩
    · -- not: 8 < (m : Int)
      refine s_on 14 rfl (congrArg Value.bool (decide_eq_false h6)) (o_move (v := (S s)) rfl ?_)
      refine s_on 14 rfl (congrArg Value.bool (decide_eq_false h6)) (o_slen Tryz.underlying9 rfl ?_)
      refine s_on 14 rfl (congrArg Value.bool (decide_eq_false h6)) (o_move (v := (.int .i64 (m : Int))) rfl ?_)
      refine s_on 14 rfl (congrArg Value.bool (decide_eq_false h6)) (o_lss (a := (s.length : Int)) (b := (m : Int)) rfl rfl ?_)
      refine s_op (o_pick_f (u := (.bool (decide ((s.length : Int) < (m : Int))))) ((rfl : _ = _).trans (congrArg Value.bool (decide_eq_false h6))) rfl ?_)
      refine s_op (o_move (v := (.bool (decide ((s.length : Int) < (m : Int))))) rfl ?_)
      by_cases h8 : (s.length : Int) < (m : Int)
      · -- (s.length : Int) < (m : Int)
        refine s_off (b' := true) 20 rfl (congrArg Value.bool (decide_eq_true h8)) rfl ?_
        refine s_off (b' := true) 20 rfl (congrArg Value.bool (decide_eq_true h8)) rfl ?_
        refine s_off (b' := true) 20 rfl (congrArg Value.bool (decide_eq_true h8)) rfl ?_
        refine s_offu 23 rfl rfl ?_
        refine s_offu 23 rfl rfl ?_
        refine s_offu 23 rfl rfl ?_
        refine s_off (b' := true) 20 rfl (congrArg Value.bool (decide_eq_true h8)) rfl ?_
        refine s_op (o_pick_t (u := (.bool true)) ((rfl : _ = _).trans (congrArg Value.bool (decide_eq_true h8))) rfl ?_)
        refine s_nil ?_
        refine t_norm (hK3 _ _ ?_)
        refine c_true rfl rfl ?_
        refine wp_seq_k fun K9 hK9 => ?_
        refine c_region ?_
        refine s_op (o_assign (v := (.int .i64 0)) rfl ?_)
        refine s_op (o_assign (v := (.bool false)) rfl ?_)
        refine s_nil ?_
        refine t_norm (hK9 _ _ ?_)
        refine wp_ret ?_
        refine t_ret (c_ret2 Tryz.results70  (v := (.int .i64 0)) rfl (x := (.bool false)) rfl ?_)
        exact ⟨by rw [takeS_no (by first | exact .inl (by omega) | exact .inr (.inl (by omega)) | exact .inr (.inr ⟨by omega, 0, by simpa using rfl, by omega⟩))], hH⟩
      · -- not: (s.length : Int) < (m : Int)
        refine s_on 20 rfl (congrArg Value.bool (decide_eq_false h8)) (o_move (v := (.int .i64 (m : Int))) rfl ?_)
        refine s_on 20 rfl (congrArg Value.bool (decide_eq_false h8)) (o_eql (a := (m : Int)) (b := 8) rfl rfl ?_)
        refine s_on 20 rfl (congrArg Value.bool (decide_eq_false h8)) (o_move (v := (.bool (decide ((m : Int) = 8)))) rfl ?_)
        by_cases h10 : (m : Int) = 8
        · -- (m : Int) = 8
          refine s_on 23 rfl (congrArg Value.bool (decide_eq_true h10)) (o_move (v := (S s)) rfl ?_)
          obtain ⟨c11, hx12⟩ : ∃ x_, s[((0 : Int)).toNat]? = some x_ := get_some (by omega)
          have c11_lt := c11.toNat_lt
          refine s_on 23 rfl (congrArg Value.bool (decide_eq_true h10)) (o_sidx Tryz.underlying9 rfl rfl (by omega) hx12 ?_)
          refine s_on 23 rfl (congrArg Value.bool (decide_eq_true h10)) (o_geq (a := (c11.toNat : Int)) (b := 128) rfl rfl ?_)
          refine s_on 20 rfl (congrArg Value.bool (decide_eq_false h8)) (o_pick_t (u := (.bool (decide (128 ≤ (c11.toNat : Int))))) ((rfl : _ = _).trans (congrArg Value.bool (decide_eq_true h10))) rfl ?_)
          refine s_op (o_pick_f (u := (.bool (decide (128 ≤ (c11.toNat : Int))))) ((rfl : _ = _).trans (congrArg Value.bool (decide_eq_false h8))) rfl ?_)
          refine s_nil ?_
          refine t_norm (hK3 _ _ ?_)
          refine c_cond rfl (fun h13 => ?_) (fun h13 => ?_)
          · -- 128 ≤ (c11.toNat : Int)
            refine wp_seq_k fun K14 hK14 => ?_
            refine c_region ?_
            refine s_op (o_assign (v := (.int .i64 0)) rfl ?_)
            refine s_op (o_assign (v := (.bool false)) rfl ?_)
            refine s_nil ?_
            refine t_norm (hK14 _ _ ?_)
            refine wp_ret ?_
            refine t_ret (c_ret2 Tryz.results70  (v := (.int .i64 0)) rfl (x := (.bool false)) rfl ?_)
            exact ⟨by rw [takeS_no (by first | exact .inl (by omega) | exact .inr (.inl (by omega)) | exact .inr (.inr ⟨by omega, c11, by simpa using hx12, by omega⟩))], hH⟩
          · -- not: 128 ≤ (c11.toNat : Int)
            refine wp_skip ?_
            refine t_norm (hK2 _ _ ?_)
            refine wp_seq_k fun K15 hK15 => ?_
            refine c_region ?_
            refine s_op (o_assign (v := (.int .i64 0)) rfl ?_)
            refine s_nil ?_
            refine t_norm (hK15 _ _ ?_)
            refine wp_seq_k fun K16 hK16 => ?_
            refine wp_seq_k fun K17 hK17 => ?_
            refine c_region ?_
            refine s_op (o_assign (v := (.int .i64 0)) rfl ?_)
            refine s_nil ?_
            refine t_norm (hK17 _ _ ?_)
            refine wp_block ?_
            let I19 : Nat → (Nat → Value) → World → Prop := fun n__ r__ w__ => ∃ (i : Nat) (y : Int), n__ = m - i ∧ Has E w__ [R] ∧ (i ≤ m) ∧ (y = beVal (s.take i)) ∧ r__ 0 = (S s) ∧ r__ 1 = (.int .i64 (m : Int)) ∧ r__ 4 = (.int .i64 0) ∧ r__ 5 = (.bool false) ∧ r__ 6 = (.int .i64 y) ∧ r__ 7 = (.int .i64 (i : Int)) ∧ r__ 28 = (.bool (decide (128 ≤ (c11.toNat : Int))))
            refine c_loop I19 _ ⟨0, 0, rfl, hH, Nat.zero_le _, rfl, rfl, rfl, rfl, rfl, rfl, rfl, rfl⟩ ?_
            rintro n_ r22 w20 ⟨i, y, rfl, hH21, hi, hy, e18_0, e18_1, e18_4, e18_5, e18_6, e18_7, e18_28⟩
            have hb0 := beVal_nonneg (s.take i)
            have hb1 : i < m → beVal (s.take i) < 36028797018963968 := fun h => beVal_lt h (by omega) (by omega) (.inr (first_byte (by simpa using hx12) (by omega)))
            refine wp_seq_k fun K23 hK23 => ?_
            refine wp_seq_k fun K24 hK24 => ?_
            refine c_region ?_
            refine s_op (o_move (v := (.int .i64 (i : Int))) e18_7 ?_)
            refine s_op (o_move (v := (.int .i64 (m : Int))) e18_1 ?_)
            refine s_op (o_lss (a := (i : Int)) (b := (m : Int)) rfl rfl ?_)
            refine s_nil ?_
            refine t_norm (hK24 _ _ ?_)
            refine c_cond rfl (fun h25 => ?_) (fun h25 => ?_)
            · -- (i : Int) < (m : Int)
              refine wp_skip ?_
              refine t_norm (hK23 _ _ ?_)
              refine wp_seq_k fun K26 hK26 => ?_
              refine wp_block ?_
              refine c_region ?_
              refine s_op (o_move (v := (.int .i64 y)) e18_6 ?_)
              refine s_op (o_mul (a := 256) (b := y) rfl rfl (w64 (by omega) (by omega)) ?_)
              refine s_op (o_move (v := (S s)) e18_0 ?_)
              refine s_op (o_move (v := (.int .i64 (i : Int))) e18_7 ?_)
              obtain ⟨c27, hx28⟩ : ∃ x_, s[((i : Int)).toNat]? = some x_ := get_some (by omega)
              have c27_lt := c27.toNat_lt
              refine s_op (o_sidx Tryz.underlying9 rfl rfl (by omega) hx28 ?_)
              refine s_op (o_conv Tryz.underlying5 Tryz.underlying3 rfl (w_u8 _) ?_)
              refine s_op (o_add (a := 256 * y) (b := (c27.toNat : Int)) rfl rfl (w64 (by omega) (by omega)) ?_)
              refine s_op (o_assign (v := (.int .i64 ((256 * y) + (c27.toNat : Int)))) rfl ?_)
              refine s_nil ?_
              refine b_norm ?_
              refine t_norm (hK26 _ _ ?_)
              refine c_region ?_
              refine s_op (o_move (v := (.int .i64 (i : Int))) e18_7 ?_)
              refine s_op (o_add (a := (i : Int)) (b := 1) rfl rfl (w64 (by omega) (by omega)) ?_)
              refine s_op (o_assign (v := (.int .i64 ((i : Int) + 1))) rfl ?_)
              refine s_nil ?_
              refine t_norm ⟨m - (i + 1), _, rfl, ?_, ?_⟩
              · omega
              · exact ⟨(i + 1), ((256 * y) + (c27.toNat : Int)), rfl, hH21, (by omega), (by rw [take_succ_of (by simpa using hx28), beVal_snoc, ← hy]; omega), e18_0, e18_1, e18_4, e18_5, rfl, rfl, e18_28⟩
            · -- not: (i : Int) < (m : Int)
              refine wp_exit ?_
              refine t_exit (t_exit (x_in (?_)))
              refine t_norm (hK16 _ _ ?_)
              refine wp_seq_k fun K29 hK29 => ?_
              refine c_region ?_
              refine s_op (o_move (v := (.int .i64 y)) e18_6 ?_)
              refine s_op (o_assign (v := (.int .i64 y)) rfl ?_)
              refine s_op (o_assign (v := (.bool true)) rfl ?_)
              refine s_nil ?_
              refine t_norm (hK29 _ _ ?_)
              refine wp_ret ?_
              refine c_ret2 Tryz.results70  (v := (.int .i64 y)) rfl (x := (.bool true)) rfl ?_
              have e : i = m := by omega
              rw [e] at hy
              exact ⟨by rw [takeS_yes (by omega) (by omega) (by omega) (.inr (first_byte (by simpa using hx12) (by omega))), hy], hH21⟩
        · -- not: (m : Int) = 8
          refine s_off (b' := false) 23 rfl (congrArg Value.bool (decide_eq_false h10)) rfl ?_
          refine s_off (b' := false) 23 rfl (congrArg Value.bool (decide_eq_false h10)) rfl ?_
          refine s_off (b' := false) 23 rfl (congrArg Value.bool (decide_eq_false h10)) rfl ?_
          refine s_on 20 rfl (congrArg Value.bool (decide_eq_false h8)) (o_pick_f (u := (.bool false)) ((rfl : _ = _).trans (congrArg Value.bool (decide_eq_false h10))) rfl ?_)
          refine s_op (o_pick_f (u := (.bool false)) ((rfl : _ = _).trans (congrArg Value.bool (decide_eq_false h8))) rfl ?_)
          refine s_nil ?_
          refine t_norm (hK3 _ _ ?_)
          refine c_false rfl rfl ?_
          refine wp_skip ?_
          refine t_norm (hK2 _ _ ?_)
          refine wp_seq_k fun K30 hK30 => ?_
          refine c_region ?_
          refine s_op (o_assign (v := (.int .i64 0)) rfl ?_)
          refine s_nil ?_
          refine t_norm (hK30 _ _ ?_)
          refine wp_seq_k fun K31 hK31 => ?_
          refine wp_seq_k fun K32 hK32 => ?_
          refine c_region ?_
          refine s_op (o_assign (v := (.int .i64 0)) rfl ?_)
          refine s_nil ?_
          refine t_norm (hK32 _ _ ?_)
          refine wp_block ?_
          let I34 : Nat → (Nat → Value) → World → Prop := fun n__ r__ w__ => ∃ (i : Nat) (y : Int), n__ = m - i ∧ Has E w__ [R] ∧ (i ≤ m) ∧ (y = beVal (s.take i)) ∧ r__ 0 = (S s) ∧ r__ 1 = (.int .i64 (m : Int)) ∧ r__ 4 = (.int .i64 0) ∧ r__ 5 = (.bool false) ∧ r__ 6 = (.int .i64 y) ∧ r__ 7 = (.int .i64 (i : Int)) ∧ r__ 28 = (.bool false)
          refine c_loop I34 _ ⟨0, 0, rfl, hH, Nat.zero_le _, rfl, rfl, rfl, rfl, rfl, rfl, rfl, rfl⟩ ?_
          rintro n_ r37 w35 ⟨i, y, rfl, hH36, hi, hy, e33_0, e33_1, e33_4, e33_5, e33_6, e33_7, e33_28⟩
          have hb0 := beVal_nonneg (s.take i)
          have hb1 : i < m → beVal (s.take i) < 36028797018963968 := fun h => beVal_lt h (by omega) (by omega) (.inl (by omega))
          refine wp_seq_k fun K38 hK38 => ?_
          refine wp_seq_k fun K39 hK39 => ?_
          refine c_region ?_
          refine s_op (o_move (v := (.int .i64 (i : Int))) e33_7 ?_)
          refine s_op (o_move (v := (.int .i64 (m : Int))) e33_1 ?_)
          refine s_op (o_lss (a := (i : Int)) (b := (m : Int)) rfl rfl ?_)
          refine s_nil ?_
          refine t_norm (hK39 _ _ ?_)
          refine c_cond rfl (fun h40 => ?_) (fun h40 => ?_)
          · -- (i : Int) < (m : Int)
            refine wp_skip ?_
            refine t_norm (hK38 _ _ ?_)
            refine wp_seq_k fun K41 hK41 => ?_
            refine wp_block ?_
            refine c_region ?_
            refine s_op (o_move (v := (.int .i64 y)) e33_6 ?_)
            refine s_op (o_mul (a := 256) (b := y) rfl rfl (w64 (by omega) (by omega)) ?_)
            refine s_op (o_move (v := (S s)) e33_0 ?_)
            refine s_op (o_move (v := (.int .i64 (i : Int))) e33_7 ?_)
            obtain ⟨c42, hx43⟩ : ∃ x_, s[((i : Int)).toNat]? = some x_ := get_some (by omega)
            have c42_lt := c42.toNat_lt
            refine s_op (o_sidx Tryz.underlying9 rfl rfl (by omega) hx43 ?_)
            refine s_op (o_conv Tryz.underlying5 Tryz.underlying3 rfl (w_u8 _) ?_)
            refine s_op (o_add (a := 256 * y) (b := (c42.toNat : Int)) rfl rfl (w64 (by omega) (by omega)) ?_)
            refine s_op (o_assign (v := (.int .i64 ((256 * y) + (c42.toNat : Int)))) rfl ?_)
            refine s_nil ?_
            refine b_norm ?_
            refine t_norm (hK41 _ _ ?_)
            refine c_region ?_
            refine s_op (o_move (v := (.int .i64 (i : Int))) e33_7 ?_)
            refine s_op (o_add (a := (i : Int)) (b := 1) rfl rfl (w64 (by omega) (by omega)) ?_)
            refine s_op (o_assign (v := (.int .i64 ((i : Int) + 1))) rfl ?_)
            refine s_nil ?_
            refine t_norm ⟨m - (i + 1), _, rfl, ?_, ?_⟩
            · omega
            · exact ⟨(i + 1), ((256 * y) + (c42.toNat : Int)), rfl, hH36, (by omega), (by rw [take_succ_of (by simpa using hx43), beVal_snoc, ← hy]; omega), e33_0, e33_1, e33_4, e33_5, rfl, rfl, e33_28⟩
          · -- not: (i : Int) < (m : Int)
            refine wp_exit ?_
            refine t_exit (t_exit (x_in (?_)))
            refine t_norm (hK31 _ _ ?_)
            refine wp_seq_k fun K44 hK44 => ?_
            refine c_region ?_
            refine s_op (o_move (v := (.int .i64 y)) e33_6 ?_)
            refine s_op (o_assign (v := (.int .i64 y)) rfl ?_)
            refine s_op (o_assign (v := (.bool true)) rfl ?_)
            refine s_nil ?_
            refine t_norm (hK44 _ _ ?_)
            refine wp_ret ?_
            refine c_ret2 Tryz.results70  (v := (.int .i64 y)) rfl (x := (.bool true)) rfl ?_
            have e : i = m := by omega
            rw [e] at hy
            exact ⟨by rw [takeS_yes (by omega) (by omega) (by omega) (.inl (by omega)), hy], hH36⟩
set_option maxHeartbeats 4000000 in
theorem rlaid_c {E w : World} {R : List Hp} (hH : Has E w [R]) (m : Nat) (hm : 1 ≤ m ∧ m ≤ 8) (n : Int) (hn : -9223372036854775808 ≤ n ∧ n ≤ 9223372036854775807) (hf : fitsS n m = true) :
    Calls Tryz.prog 109 #[(.int .i64 (m : Int)), (.int .i64 n)] w fun e w' => e = .returned (S (beFrom n m)) ∧ Has E w' [R] := by
  refine c_enter (args := [(.int .i64 (m : Int)), (.int .i64 n)]) Tryz.func109 rfl Tryz.ntmps109 (by simp) ?_
  refine wp_seq_k fun K1 hK1 => ?_
  refine c_region ?_
  refine s_op (o_assign (v := (S ([] : List UInt8))) rfl ?_)
  refine s_nil ?_
  refine t_norm (hK1 _ _ ?_)
  refine wp_seq_k fun K2 hK2 => ?_
  refine c_region ?_
  refine s_op (o_move (v := (.int .i64 (m : Int))) rfl ?_)
  refine s_op (o_move (v := (.int .i64 n)) rfl ?_)
  refine s_op (o_callf (vs := #[(.int .i64 (m : Int)), (.int .i64 n)]) ca135 rfl (args2 rfl rfl) (refPut_c hH.all m hm n hn) ?_)
  rintro _ w7 ⟨t3, rfl, _, ht4, hX5⟩
  refine ⟨_, rfl, ?_⟩
  have hH6 : Has E w7 [R] := hX5.of_all
  refine s_op (o_move (v := (.tuple #[(S t3), (.bool (fitsS n m))])) rfl ?_)
  refine s_op (o_extract (v := (S t3)) rfl rfl ?_)
  refine s_op (o_extract (v := (.bool (fitsS n m))) rfl rfl ?_)
  refine s_op (o_assign (v := (S t3)) rfl ?_)
  refine s_op (o_assign (v := (.bool (fitsS n m))) rfl ?_)
  refine s_nil ?_
  refine t_norm (hK2 _ _ ?_)
  refine wp_seq_k fun K8 hK8 => ?_
  refine c_region ?_
  refine s_op (o_move (v := (S t3)) rfl ?_)
  refine s_op (o_assign (v := (S t3)) rfl ?_)
  refine s_nil ?_
  refine t_norm (hK8 _ _ ?_)
  refine wp_ret ?_
  refine c_ret1 Tryz.results109  (v := (S t3)) rfl ?_
  exact ⟨by rw [ht4 hf], hH6⟩
end Go.Q
namespace Go.Q
open Go.Proofs
set_option linter.unusedVariables false
set_option maxRecDepth 100000
attribute [local irreducible] wpList OK Code.wp
set_option maxHeartbeats 4000000 in
theorem of2_c {E w : World} {R : List Hp} (hH : Has E w [R]) (hg : CellsAt R 1 0 nibV) {v : Value} {l : List (List UInt8)} (hv : Sl R 1 v l.length (l.map sV)) (hlb : ∀ x ∈ l, x.length ≤ 9223372036854775807) :
    Calls Tryz.prog 165 #[v] w fun e w' => e = .returned (.int .u32 ((crcS l.flatten).toNat : Int)) ∧ Has E w' [R] := by
  have hn := hv.le
  refine c_enter (args := [v]) Tryz.func165 rfl Tryz.ntmps165 (by simp) ?_
  refine wp_seq_k fun K1 hK1 => ?_
  refine c_region ?_
  refine s_op (o_assign (v := (.int .u32 0)) rfl ?_)
  refine s_nil ?_
  refine t_norm (hK1 _ _ ?_)
  refine wp_seq_k fun K2 hK2 => ?_
  refine c_region ?_
  refine s_op (o_assign (v := (.int .u32 4294967295)) rfl ?_)
  refine s_nil ?_
  refine t_norm (hK2 _ _ ?_)
  refine wp_seq_k fun K3 hK3 => ?_
  refine wp_seq_k fun K4 hK4 => ?_
  refine c_region ?_
  refine s_op (o_move (v := v) rfl ?_)
  refine s_op (o_lenS Tryz.underlying102 rfl hv ?_)
  refine s_op (o_move (v := (.int .i64 0)) rfl ?_)
  refine s_nil ?_
  refine t_norm (hK4 _ _ ?_)
  refine wp_block ?_
  let I6 : Nat → (Nat → Value) → World → Prop := fun n__ r__ w__ => ∃ (k : Nat) (r : BitVec 32), n__ = l.length - k ∧ Has E w__ [R] ∧ (k ≤ l.length) ∧ (r = crcF (4294967295#32) (l.take k).flatten) ∧ r__ 0 = v ∧ r__ 2 = (.int .u32 0) ∧ r__ 3 = (.int .u32 (r.toNat : Int)) ∧ r__ 7 = v ∧ r__ 8 = (.int .i64 ((l.length : Nat) : Int)) ∧ r__ 9 = (.int .i64 (k : Int))
  refine c_loop I6 _ ⟨0, (4294967295#32), rfl, hH, Nat.zero_le _, rfl, rfl, rfl, rfl, rfl, rfl, rfl⟩ ?_
  rintro n_ r9 w7 ⟨k, r, rfl, hH8, hk, hr, e5_0, e5_2, e5_3, e5_7, e5_8, e5_9⟩
  refine wp_seq_k fun K10 hK10 => ?_
  refine c_region ?_
  refine s_op (o_lss (a := (k : Int)) (b := ((l.length : Nat) : Int)) e5_9 e5_8 ?_)
  refine s_nil ?_
  refine t_norm (hK10 _ _ ?_)
  refine wp_seq_k fun K11 hK11 => ?_
  refine c_cond rfl (fun h12 => ?_) (fun h12 => ?_)
  · -- (k : Int) < ((l.length : Nat) : Int)
    refine wp_skip ?_
    refine t_norm (hK11 _ _ ?_)
    refine wp_seq_k fun K13 hK13 => ?_
    refine wp_block ?_
    refine wp_seq_k fun K14 hK14 => ?_
    refine c_region ?_
    obtain ⟨x18, hx19⟩ : ∃ x_, l[((k : Int)).toNat]? = some x_ := get_some (by omega)
    refine s_op (o_index1 Tryz.underlying102 ti9 e5_7 hv e5_9 (by omega) hx19 fun b15 o16 hc17 => ?_)
    refine s_op (o_load1 (v := (S x18)) Tryz.underlying9 rfl rfl hH8 (seg_sub 0 rfl) hc17 ?_)
    refine s_op (o_assign (v := (S x18)) rfl ?_)
    refine s_nil ?_
    refine t_norm (hK14 _ _ ?_)
    refine wp_seq_k fun K20 hK20 => ?_
    refine c_region ?_
    refine s_op (o_move (v := (S x18)) rfl ?_)
    refine s_op (o_slen Tryz.underlying9 rfl ?_)
    refine s_op (o_move (v := (.int .i64 0)) rfl ?_)
    refine s_nil ?_
    refine t_norm (hK20 _ _ ?_)
    refine wp_block ?_
    have hxl := hlb x18 (List.mem_of_getElem? hx19)
    let I22 : Nat → (Nat → Value) → World → Prop := fun n__ r__ w__ => ∃ (j : Nat) (r2 : BitVec 32), n__ = x18.length - j ∧ Has E w__ [R] ∧ (j ≤ x18.length) ∧ (r2 = crcF r (x18.take j)) ∧ r__ 0 = v ∧ r__ 2 = (.int .u32 0) ∧ r__ 3 = (.int .u32 (r2.toNat : Int)) ∧ r__ 5 = (S x18) ∧ r__ 7 = v ∧ r__ 8 = (.int .i64 ((l.length : Nat) : Int)) ∧ r__ 9 = (.int .i64 (k : Int)) ∧ r__ 10 = (.bool (decide ((k : Int) < ((l.length : Nat) : Int)))) ∧ r__ 14 = (.int .i64 (x18.length : Int)) ∧ r__ 15 = (.int .i64 (j : Int))
    refine c_loop I22 _ ⟨0, r, rfl, hH8, Nat.zero_le _, rfl, e5_0, e5_2, e5_3, rfl, e5_7, e5_8, e5_9, rfl, rfl, rfl⟩ ?_
    rintro n_ r25 w23 ⟨j, r2, rfl, hH24, hj, hr2, e21_0, e21_2, e21_3, e21_5, e21_7, e21_8, e21_9, e21_10, e21_14, e21_15⟩
    refine wp_seq_k fun K26 hK26 => ?_
    refine c_region ?_
    refine s_op (o_lss (a := (j : Int)) (b := (x18.length : Int)) e21_15 e21_14 ?_)
    refine s_nil ?_
    refine t_norm (hK26 _ _ ?_)
    refine wp_seq_k fun K27 hK27 => ?_
    refine c_cond rfl (fun h28 => ?_) (fun h28 => ?_)
    · -- (j : Int) < (x18.length : Int)
      refine wp_skip ?_
      refine t_norm (hK27 _ _ ?_)
      refine wp_seq_k fun K29 hK29 => ?_
      refine wp_block ?_
      refine wp_seq_k fun K30 hK30 => ?_
      refine c_region ?_
      refine s_op (o_move (v := (.int .i64 (j : Int))) e21_15 ?_)
      refine s_op (o_assign (v := (.int .i64 (j : Int))) rfl ?_)
      refine s_nil ?_
      refine t_norm (hK30 _ _ ?_)
      refine wp_seq_k fun K31 hK31 => ?_
      refine c_region ?_
      refine s_op (o_move (v := (.int .u32 (r2.toNat : Int))) e21_3 ?_)
      refine s_op (o_move (v := (S x18)) e21_5 ?_)
      refine s_op (o_move (v := (.int .i64 (j : Int))) rfl ?_)
      obtain ⟨c32, hx33⟩ : ∃ x_, x18[((j : Int)).toNat]? = some x_ := get_some (by omega)
      have c32_lt := c32.toNat_lt
      refine s_op (o_sidx Tryz.underlying9 rfl rfl (by omega) hx33 ?_)
      refine s_op (o_conv (c := ((b32 c32).toNat : Int)) Tryz.underlying5 Tryz.underlying160 rfl (conv_b32 _) ?_)
      refine s_op (o_xor (a := ((r2).toNat : Int)) (b := (((b32 c32)).toNat : Int)) (c := ((r2 ^^^ (b32 c32)).toNat : Int)) rfl rfl (xor32 r2 (b32 c32)) ?_)
      refine s_op (o_assign (v := (.int .u32 ((r2 ^^^ (b32 c32)).toNat : Int))) rfl ?_)
      refine s_nil ?_
      refine t_norm (hK31 _ _ ?_)
      refine wp_seq_k fun K34 hK34 => ?_
      refine c_region ?_
      refine s_op (o_move (v := (.int .u32 ((r2 ^^^ (b32 c32)).toNat : Int))) rfl ?_)
      refine s_op (o_shr (a := (((r2 ^^^ (b32 c32))).toNat : Int)) (b := ((4 : Nat) : Int)) (c := (((r2 ^^^ (b32 c32)) >>> 4).toNat : Int)) rfl rfl (by omega) (shr32 (r2 ^^^ (b32 c32)) 4 (by omega)) ?_)
      refine s_op (o_move (v := (.int .u32 ((r2 ^^^ (b32 c32)).toNat : Int))) rfl ?_)
      refine s_op (o_and (a := (((r2 ^^^ (b32 c32))).toNat : Int)) (b := ((15#32).toNat : Int)) (c := (((r2 ^^^ (b32 c32)) &&& 15#32).toNat : Int)) rfl rfl (and32 (r2 ^^^ (b32 c32)) (15#32)) ?_)
      refine s_op (o_idxArr (i := ((r2 ^^^ (b32 c32)) &&& 15#32).toNat) Tryz.underlying213 ti160 rfl rfl (and15_lt _) ?_)
      refine s_op (o_load1 (v := (.int .u32 ((nib ((r2 ^^^ (b32 c32)) &&& 15#32).toNat).toNat : Int))) Tryz.underlying160 rfl rfl hH24 (seg_sub 0 rfl) (nib_at hg (r2 ^^^ (b32 c32))) ?_)
      refine s_op (o_xor (a := ((((r2 ^^^ (b32 c32)) >>> 4)).toNat : Int)) (b := (((nib ((r2 ^^^ (b32 c32)) &&& 15#32).toNat)).toNat : Int)) (c := ((((r2 ^^^ (b32 c32)) >>> 4) ^^^ (nib ((r2 ^^^ (b32 c32)) &&& 15#32).toNat)).toNat : Int)) rfl rfl (xor32 ((r2 ^^^ (b32 c32)) >>> 4) (nib ((r2 ^^^ (b32 c32)) &&& 15#32).toNat)) ?_)
      refine s_op (o_assign (v := (.int .u32 ((((r2 ^^^ (b32 c32)) >>> 4) ^^^ (nib ((r2 ^^^ (b32 c32)) &&& 15#32).toNat)).toNat : Int))) rfl ?_)
      refine s_nil ?_
      refine t_norm (hK34 _ _ ?_)
      refine c_region ?_
      refine s_op (o_move (v := (.int .u32 ((((r2 ^^^ (b32 c32)) >>> 4) ^^^ (nib ((r2 ^^^ (b32 c32)) &&& 15#32).toNat)).toNat : Int))) rfl ?_)
      refine s_op (o_shr (a := (((((r2 ^^^ (b32 c32)) >>> 4) ^^^ (nib ((r2 ^^^ (b32 c32)) &&& 15#32).toNat))).toNat : Int)) (b := ((4 : Nat) : Int)) (c := (((((r2 ^^^ (b32 c32)) >>> 4) ^^^ (nib ((r2 ^^^ (b32 c32)) &&& 15#32).toNat)) >>> 4).toNat : Int)) rfl rfl (by omega) (shr32 (((r2 ^^^ (b32 c32)) >>> 4) ^^^ (nib ((r2 ^^^ (b32 c32)) &&& 15#32).toNat)) 4 (by omega)) ?_)
      refine s_op (o_move (v := (.int .u32 ((((r2 ^^^ (b32 c32)) >>> 4) ^^^ (nib ((r2 ^^^ (b32 c32)) &&& 15#32).toNat)).toNat : Int))) rfl ?_)
      refine s_op (o_and (a := (((((r2 ^^^ (b32 c32)) >>> 4) ^^^ (nib ((r2 ^^^ (b32 c32)) &&& 15#32).toNat))).toNat : Int)) (b := ((15#32).toNat : Int)) (c := (((((r2 ^^^ (b32 c32)) >>> 4) ^^^ (nib ((r2 ^^^ (b32 c32)) &&& 15#32).toNat)) &&& 15#32).toNat : Int)) rfl rfl (and32 (((r2 ^^^ (b32 c32)) >>> 4) ^^^ (nib ((r2 ^^^ (b32 c32)) &&& 15#32).toNat)) (15#32)) ?_)
      refine s_op (o_idxArr (i := ((((r2 ^^^ (b32 c32)) >>> 4) ^^^ (nib ((r2 ^^^ (b32 c32)) &&& 15#32).toNat)) &&& 15#32).toNat) Tryz.underlying213 ti160 rfl rfl (and15_lt _) ?_)
      refine s_op (o_load1 (v := (.int .u32 ((nib ((((r2 ^^^ (b32 c32)) >>> 4) ^^^ (nib ((r2 ^^^ (b32 c32)) &&& 15#32).toNat)) &&& 15#32).toNat).toNat : Int))) Tryz.underlying160 rfl rfl hH24 (seg_sub 0 rfl) (nib_at hg (((r2 ^^^ (b32 c32)) >>> 4) ^^^ (nib ((r2 ^^^ (b32 c32)) &&& 15#32).toNat))) ?_)
      refine s_op (o_xor (a := ((((((r2 ^^^ (b32 c32)) >>> 4) ^^^ (nib ((r2 ^^^ (b32 c32)) &&& 15#32).toNat)) >>> 4)).toNat : Int)) (b := (((nib ((((r2 ^^^ (b32 c32)) >>> 4) ^^^ (nib ((r2 ^^^ (b32 c32)) &&& 15#32).toNat)) &&& 15#32).toNat)).toNat : Int)) (c := ((((((r2 ^^^ (b32 c32)) >>> 4) ^^^ (nib ((r2 ^^^ (b32 c32)) &&& 15#32).toNat)) >>> 4) ^^^ (nib ((((r2 ^^^ (b32 c32)) >>> 4) ^^^ (nib ((r2 ^^^ (b32 c32)) &&& 15#32).toNat)) &&& 15#32).toNat)).toNat : Int)) rfl rfl (xor32 ((((r2 ^^^ (b32 c32)) >>> 4) ^^^ (nib ((r2 ^^^ (b32 c32)) &&& 15#32).toNat)) >>> 4) (nib ((((r2 ^^^ (b32 c32)) >>> 4) ^^^ (nib ((r2 ^^^ (b32 c32)) &&& 15#32).toNat)) &&& 15#32).toNat)) ?_)
      refine s_op (o_assign (v := (.int .u32 ((((((r2 ^^^ (b32 c32)) >>> 4) ^^^ (nib ((r2 ^^^ (b32 c32)) &&& 15#32).toNat)) >>> 4) ^^^ (nib ((((r2 ^^^ (b32 c32)) >>> 4) ^^^ (nib ((r2 ^^^ (b32 c32)) &&& 15#32).toNat)) &&& 15#32).toNat)).toNat : Int))) rfl ?_)
      refine s_nil ?_
      refine b_norm ?_
      refine t_norm (hK29 _ _ ?_)
      refine c_region ?_
      refine s_op (o_add (a := (j : Int)) (b := 1) e21_15 rfl (w64 (by omega) (by omega)) ?_)
      refine s_op (o_move (v := (.int .i64 ((j : Int) + 1))) rfl ?_)
      refine s_nil ?_
      refine t_norm ⟨x18.length - (j + 1), _, rfl, ?_, ?_⟩
      · omega
      · exact ⟨(j + 1), (((((r2 ^^^ (b32 c32)) >>> 4) ^^^ (nib ((r2 ^^^ (b32 c32)) &&& 15#32).toNat)) >>> 4) ^^^ (nib ((((r2 ^^^ (b32 c32)) >>> 4) ^^^ (nib ((r2 ^^^ (b32 c32)) &&& 15#32).toNat)) &&& 15#32).toNat)), rfl, hH24, (by omega), (by rw [take_succ_of (show x18[j]? = some _ from hx33), crcF_snoc, ← hr2, cby_nib]), e21_0, e21_2, rfl, e21_5, e21_7, e21_8, e21_9, e21_10, e21_14, rfl⟩
    · -- not: (j : Int) < (x18.length : Int)
      refine wp_exit ?_
      refine t_exit (t_exit (x_in (?_)))
      refine b_norm ?_
      refine t_norm (hK13 _ _ ?_)
      refine c_region ?_
      refine s_op (o_add (a := (k : Int)) (b := 1) e21_9 rfl (w64 (by omega) (by omega)) ?_)
      refine s_op (o_move (v := (.int .i64 ((k : Int) + 1))) rfl ?_)
      refine s_nil ?_
      refine t_norm ⟨l.length - (k + 1), _, rfl, ?_, ?_⟩
      · omega
      · exact ⟨(k + 1), r2, rfl, hH24, (by omega), (by rw [take_succ_of (show l[k]? = some _ from hx19), List.flatten_append, crcF_append, ← hr, hr2, show j = x18.length from by omega, List.take_length]; simp), e21_0, e21_2, e21_3, e21_7, e21_8, rfl⟩
  · -- not: (k : Int) < ((l.length : Nat) : Int)
    refine wp_exit ?_
    refine t_exit (t_exit (x_in (?_)))
    refine t_norm (hK3 _ _ ?_)
    refine wp_seq_k fun K35 hK35 => ?_
    refine c_region ?_
    refine s_op (o_move (v := (.int .u32 (r.toNat : Int))) e5_3 ?_)
    refine s_op (o_compl (a := r) Tryz.underlying160 rfl ?_)
    refine s_op (o_assign (v := (.int .u32 ((~~~ r).toNat : Int))) rfl ?_)
    refine s_nil ?_
    refine t_norm (hK35 _ _ ?_)
    refine wp_ret ?_
    refine c_ret1 Tryz.results165  (v := (.int .u32 ((~~~ r).toNat : Int))) rfl ?_
    have e : k = l.length := by omega
    rw [e, List.take_length] at hr
    subst hr
    exact ⟨rfl, hH8⟩
set_option maxHeartbeats 4000000 in
theorem refsum_c {E w : World} {R : List Hp} (hH : Has E w [R]) (t : List UInt8) (hl : t.length ≤ 9223372036854775807) :
    Calls Tryz.prog 136 #[(S t)] w fun e w' => e = .returned (.int .u32 ((crcS t).toNat : Int)) ∧ Has E w' [R] := by
  refine c_enter (args := [(S t)]) Tryz.func136 rfl Tryz.ntmps136 (by simp) ?_
  refine wp_seq_k fun K1 hK1 => ?_
  refine c_region ?_
  refine s_op (o_assign (v := (.int .u32 0)) rfl ?_)
  refine s_nil ?_
  refine t_norm (hK1 _ _ ?_)
  refine wp_seq_k fun K2 hK2 => ?_
  refine c_region ?_
  refine s_op (o_assign (v := (.int .u32 4294967295)) rfl ?_)
  refine s_nil ?_
  refine t_norm (hK2 _ _ ?_)
  refine wp_seq_k fun K3 hK3 => ?_
  refine wp_seq_k fun K4 hK4 => ?_
  refine c_region ?_
  refine s_op (o_assign (v := (.int .i64 0)) rfl ?_)
  refine s_nil ?_
  refine t_norm (hK4 _ _ ?_)
  refine wp_block ?_
  let I6 : Nat → (Nat → Value) → World → Prop := fun n__ r__ w__ => ∃ (k : Nat) (r : BitVec 32), n__ = t.length - k ∧ Has E w__ [R] ∧ (k ≤ t.length) ∧ (r = crcF (4294967295#32) (t.take k)) ∧ r__ 0 = (S t) ∧ r__ 2 = (.int .u32 0) ∧ r__ 3 = (.int .u32 (r.toNat : Int)) ∧ r__ 4 = (.int .i64 (k : Int))
  refine c_loop I6 _ ⟨0, (4294967295#32), rfl, hH, Nat.zero_le _, rfl, rfl, rfl, rfl, rfl⟩ ?_
  rintro n_ r9 w7 ⟨k, r, rfl, hH8, hk, hr, e5_0, e5_2, e5_3, e5_4⟩
  refine wp_seq_k fun K10 hK10 => ?_
  refine wp_seq_k fun K11 hK11 => ?_
  refine c_region ?_
  refine s_op (o_move (v := (.int .i64 (k : Int))) e5_4 ?_)
  refine s_op (o_move (v := (S t)) e5_0 ?_)
  refine s_op (o_slen Tryz.underlying9 rfl ?_)
  refine s_op (o_lss (a := (k : Int)) (b := (t.length : Int)) rfl rfl ?_)
  refine s_nil ?_
  refine t_norm (hK11 _ _ ?_)
  refine c_cond rfl (fun h12 => ?_) (fun h12 => ?_)
  · -- (k : Int) < (t.length : Int)
    refine wp_skip ?_
    refine t_norm (hK10 _ _ ?_)
    refine wp_seq_k fun K13 hK13 => ?_
    refine wp_block ?_
    refine wp_seq_k fun K14 hK14 => ?_
    refine c_region ?_
    refine s_op (o_assign (v := (.int .i64 0)) rfl ?_)
    refine s_nil ?_
    refine t_norm (hK14 _ _ ?_)
    refine wp_block ?_
    obtain ⟨ch, hch⟩ : ∃ x_, t[((k : Int)).toNat]? = some x_ := get_some (by omega)
    have hch_lt := ch.toNat_lt
    let I16 : Nat → (Nat → Value) → World → Prop := fun n__ r__ w__ => ∃ (j : Nat) (r2 : BitVec 32), n__ = 8 - j ∧ Has E w__ [R] ∧ (j ≤ 8) ∧ (r2 ^^^ (b32 ch >>> j) = cbs j (r ^^^ b32 ch)) ∧ r__ 0 = (S t) ∧ r__ 2 = (.int .u32 0) ∧ r__ 3 = (.int .u32 (r2.toNat : Int)) ∧ r__ 4 = (.int .i64 (k : Int)) ∧ r__ 5 = (.int .i64 (j : Int)) ∧ r__ 10 = (.bool (decide ((k : Int) < (t.length : Int))))
    refine c_loop I16 _ ⟨0, r, rfl, hH8, (by omega), (by simp [cbs]), e5_0, e5_2, e5_3, e5_4, rfl, rfl⟩ ?_
    rintro n_ r19 w17 ⟨j, r2, rfl, hH18, hj, hr2, e15_0, e15_2, e15_3, e15_4, e15_5, e15_10⟩
    refine wp_seq_k fun K20 hK20 => ?_
    refine wp_seq_k fun K21 hK21 => ?_
    refine c_region ?_
    refine s_op (o_move (v := (.int .i64 (j : Int))) e15_5 ?_)
    refine s_op (o_lss (a := (j : Int)) (b := 8) rfl rfl ?_)
    refine s_nil ?_
    refine t_norm (hK21 _ _ ?_)
    refine c_cond rfl (fun h22 => ?_) (fun h22 => ?_)
    · -- (j : Int) < 8
      refine wp_skip ?_
      refine t_norm (hK20 _ _ ?_)
      refine wp_seq_k fun K23 hK23 => ?_
      refine wp_block ?_
      refine wp_seq_k fun K24 hK24 => ?_
      refine c_region ?_
      refine s_op (o_move (v := (.int .u32 (r2.toNat : Int))) e15_3 ?_)
      refine s_op (o_rem (a := (r2.toNat : Int)) (b := 2) (c := (r2.toNat : Int) % 2) rfl rfl (by omega) ((Int.tmod_eq_emod_of_nonneg (by first | exact Int.natCast_nonneg _ | omega))) ?_)
      refine s_op (o_move (v := (S t)) e15_0 ?_)
      refine s_op (o_move (v := (.int .i64 (k : Int))) e15_4 ?_)
      refine s_op (o_sidx Tryz.underlying9 rfl rfl (by omega) hch ?_)
      refine s_op (o_move (v := (.int .i64 (j : Int))) e15_5 ?_)
      refine s_op (o_shr (a := (ch.toNat : Int)) (b := ((j : Nat) : Int)) (c := ((ch.toNat >>> j : Nat) : Int)) rfl rfl (by omega) (shr8 ch j (by omega)) ?_)
      refine s_op (o_rem (a := ((ch.toNat >>> j : Nat) : Int)) (b := 2) (c := ((ch.toNat >>> j : Nat) : Int) % 2) rfl rfl (by omega) ((Int.tmod_eq_emod_of_nonneg (by first | exact Int.natCast_nonneg _ | omega))) ?_)
      refine s_op (o_conv (c := (((ch.toNat >>> j : Nat) : Int) % 2)) Tryz.underlying5 Tryz.underlying160 rfl (wrap_u32 (by omega) (by omega)) ?_)
      refine s_op (o_neq (a := (r2.toNat : Int) % 2) (b := ((ch.toNat >>> j : Nat) : Int) % 2) rfl rfl ?_)
      refine s_op (o_assign (v := (.bool (decide ((r2.toNat : Int) % 2 ≠ ((ch.toNat >>> j : Nat) : Int) % 2)))) rfl ?_)
      refine s_nil ?_
      refine t_norm (hK24 _ _ ?_)
      refine wp_seq_k fun K25 hK25 => ?_
      refine c_region ?_
      refine s_op (o_move (v := (.int .u32 (r2.toNat : Int))) e15_3 ?_)
      refine s_op (o_quo (a := ((r2).toNat : Int)) (b := ((2 : Nat) : Int)) (c := ((r2 >>> 1).toNat : Int)) rfl rfl (by decide) (quo32 r2 2 1 (by decide)) ?_)
      refine s_op (o_assign (v := (.int .u32 ((r2 >>> 1).toNat : Int))) rfl ?_)
      refine s_nil ?_
      refine t_norm (hK25 _ _ ?_)
      refine wp_seq_k fun K26 hK26 => ?_
      refine c_region ?_
      refine s_op (o_move (v := (.bool (decide ((r2.toNat : Int) % 2 ≠ ((ch.toNat >>> j : Nat) : Int) % 2)))) rfl ?_)
      refine s_nil ?_
      refine t_norm (hK26 _ _ ?_)
      refine c_cond rfl (fun h27 => ?_) (fun h27 => ?_)
      · -- (r2.toNat : Int) % 2 ≠ ((ch.toNat >>> j : Nat) : Int) % 2
        refine c_region ?_
        refine s_op (o_move (v := (.int .u32 ((r2 >>> 1).toNat : Int))) rfl ?_)
        refine s_op (o_xor (a := (((r2 >>> 1)).toNat : Int)) (b := ((3988292384#32).toNat : Int)) (c := (((r2 >>> 1) ^^^ 3988292384#32).toNat : Int)) rfl rfl (xor32 (r2 >>> 1) (3988292384#32)) ?_)
        refine s_op (o_assign (v := (.int .u32 (((r2 >>> 1) ^^^ 3988292384#32).toNat : Int))) rfl ?_)
        refine s_nil ?_
        refine b_norm ?_
        refine t_norm (hK23 _ _ ?_)
        refine c_region ?_
        refine s_op (o_move (v := (.int .i64 (j : Int))) e15_5 ?_)
        refine s_op (o_add (a := (j : Int)) (b := 1) rfl rfl (w64 (by omega) (by omega)) ?_)
        refine s_op (o_assign (v := (.int .i64 ((j : Int) + 1))) rfl ?_)
        refine s_nil ?_
        refine t_norm ⟨8 - (j + 1), _, rfl, ?_, ?_⟩
        · omega
        · exact ⟨(j + 1), ((r2 >>> 1) ^^^ 3988292384#32), rfl, hH18, (by omega), (bits_yes hr2 (by assumption) (by omega)), e15_0, e15_2, rfl, e15_4, rfl, e15_10⟩
      · -- not: (r2.toNat : Int) % 2 ≠ ((ch.toNat >>> j : Nat) : Int) % 2
        refine wp_skip ?_
        refine b_norm ?_
        refine t_norm (hK23 _ _ ?_)
        refine c_region ?_
        refine s_op (o_move (v := (.int .i64 (j : Int))) e15_5 ?_)
        refine s_op (o_add (a := (j : Int)) (b := 1) rfl rfl (w64 (by omega) (by omega)) ?_)
        refine s_op (o_assign (v := (.int .i64 ((j : Int) + 1))) rfl ?_)
        refine s_nil ?_
        refine t_norm ⟨8 - (j + 1), _, rfl, ?_, ?_⟩
        · omega
        · exact ⟨(j + 1), (r2 >>> 1), rfl, hH18, (by omega), (bits_no hr2 (by assumption) (by omega)), e15_0, e15_2, rfl, e15_4, rfl, e15_10⟩
    · -- not: (j : Int) < 8
      refine wp_exit ?_
      refine t_exit (t_exit (x_in (?_)))
      refine b_norm ?_
      refine t_norm (hK13 _ _ ?_)
      refine c_region ?_
      refine s_op (o_move (v := (.int .i64 (k : Int))) e15_4 ?_)
      refine s_op (o_add (a := (k : Int)) (b := 1) rfl rfl (w64 (by omega) (by omega)) ?_)
      refine s_op (o_assign (v := (.int .i64 ((k : Int) + 1))) rfl ?_)
      refine s_nil ?_
      refine t_norm ⟨t.length - (k + 1), _, rfl, ?_, ?_⟩
      · omega
      · exact ⟨(k + 1), r2, rfl, hH18, (by omega), (by rw [take_succ_of (show t[k]? = some _ from hch), crcF_snoc, ← hr]; exact bits_done hr2 (by omega)), e15_0, e15_2, e15_3, rfl⟩
  · -- not: (k : Int) < (t.length : Int)
    refine wp_exit ?_
    refine t_exit (t_exit (x_in (?_)))
    refine t_norm (hK3 _ _ ?_)
    refine wp_seq_k fun K28 hK28 => ?_
    refine c_region ?_
    refine s_op (o_move (v := (.int .u32 (r.toNat : Int))) e5_3 ?_)
    refine s_op (o_sub (c := ((~~~ r).toNat : Int)) rfl rfl (sub32 r) ?_)
    refine s_op (o_assign (v := (.int .u32 ((~~~ r).toNat : Int))) rfl ?_)
    refine s_nil ?_
    refine t_norm (hK28 _ _ ?_)
    refine wp_ret ?_
    refine c_ret1 Tryz.results136  (v := (.int .u32 ((~~~ r).toNat : Int))) rfl ?_
    have e : k = t.length := by omega
    rw [e, List.take_length] at hr
    subst hr
    exact ⟨rfl, hH8⟩
end Go.Q
namespace Go.Q
open Go.Proofs
set_option linter.unusedVariables false
set_option maxRecDepth 100000
attribute [local irreducible] wpList OK Code.wp
set_option maxHeartbeats 4000000 in
theorem laid_c {E w : World} {R : List Hp} (hH : Has E w [R]) (hg : CellsAt R 1 0 nibV) {v : Value} {l : List (List UInt8)} (hv : Sl R 1 v l.length (l.map sV)) (hlb : ∀ x ∈ l, x.length ≤ 9223372036854775807) :
    Calls Tryz.prog 143 #[v] w fun e w' => e = .returned (S (laidS (crcS l.flatten))) ∧ Has E w' [R] := by
  refine c_enter (args := [v]) Tryz.func143 rfl Tryz.ntmps143 (by simp) ?_
  refine wp_seq_k fun K1 hK1 => ?_
  refine c_region ?_
  refine s_op (o_assign (v := (S ([] : List UInt8))) rfl ?_)
  refine s_nil ?_
  refine t_norm (hK1 _ _ ?_)
  refine wp_seq_k fun K2 hK2 => ?_
  refine c_region ?_
  refine s_op (o_move (v := v) rfl ?_)
  refine s_op (o_callf (vs := #[v]) ca165 rfl (args1 rfl) (of2_c hH.all (hg.mono (seg_sub 0 rfl)) (hv.mono (seg_sub 0 rfl)) hlb) ?_)
  rintro _ w5 ⟨rfl, hX3⟩
  refine ⟨_, rfl, ?_⟩
  have hH4 := hX3.of_all
  refine s_op (o_assign (v := (.int .u32 ((crcS l.flatten).toNat : Int))) rfl ?_)
  refine s_nil ?_
  refine t_norm (hK2 _ _ ?_)
  refine wp_seq_k fun K6 hK6 => ?_
  refine c_region ?_
  refine s_op (o_move (v := (.int .u32 ((crcS l.flatten).toNat : Int))) rfl ?_)
  refine s_op (o_conv (c := ((lo8 (crcS l.flatten)).toNat : Int)) Tryz.underlying160 Tryz.underlying5 rfl (conv_lo8 _) ?_)
  refine s_op (o_move (v := (.int .u32 ((crcS l.flatten).toNat : Int))) rfl ?_)
  refine s_op (o_shr (a := (((crcS l.flatten)).toNat : Int)) (b := ((8 : Nat) : Int)) (c := (((crcS l.flatten) >>> 8).toNat : Int)) rfl rfl (by omega) (shr32 (crcS l.flatten) 8 (by omega)) ?_)
  refine s_op (o_conv (c := ((lo8 ((crcS l.flatten) >>> 8)).toNat : Int)) Tryz.underlying160 Tryz.underlying5 rfl (conv_lo8 _) ?_)
  refine s_op (o_move (v := (.int .u32 ((crcS l.flatten).toNat : Int))) rfl ?_)
  refine s_op (o_shr (a := (((crcS l.flatten)).toNat : Int)) (b := ((16 : Nat) : Int)) (c := (((crcS l.flatten) >>> 16).toNat : Int)) rfl rfl (by omega) (shr32 (crcS l.flatten) 16 (by omega)) ?_)
  refine s_op (o_conv (c := ((lo8 ((crcS l.flatten) >>> 16)).toNat : Int)) Tryz.underlying160 Tryz.underlying5 rfl (conv_lo8 _) ?_)
  refine s_op (o_move (v := (.int .u32 ((crcS l.flatten).toNat : Int))) rfl ?_)
  refine s_op (o_shr (a := (((crcS l.flatten)).toNat : Int)) (b := ((24 : Nat) : Int)) (c := (((crcS l.flatten) >>> 24).toNat : Int)) rfl rfl (by omega) (shr32 (crcS l.flatten) 24 (by omega)) ?_)
  refine s_op (o_conv (c := ((lo8 ((crcS l.flatten) >>> 24)).toNat : Int)) Tryz.underlying160 Tryz.underlying5 rfl (conv_lo8 _) ?_)
  refine s_op (o_buildSlice (ps := #[(0, (bV (lo8 (crcS l.flatten)))), (1, (bV (lo8 ((crcS l.flatten) >>> 8)))), (2, (bV (lo8 ((crcS l.flatten) >>> 16)))), (3, (bV (lo8 ((crcS l.flatten) >>> 24))))]) (cells := #[(bV (lo8 (crcS l.flatten))), (bV (lo8 ((crcS l.flatten) >>> 8))), (bV (lo8 ((crcS l.flatten) >>> 16))), (bV (lo8 ((crcS l.flatten) >>> 24)))]) Tryz.underlying54 ti5 (by decide) (parts4 rfl rfl rfl rfl) (by kernel_rfl) hH4 fun b7 w8 hH9 => ?_)
  refine s_op (o_bstr Tryz.underlying54 Tryz.underlying5 Tryz.underlying9 rfl (sl_lit (f := bV) (l := [(lo8 (crcS l.flatten)), (lo8 ((crcS l.flatten) >>> 8)), (lo8 ((crcS l.flatten) >>> 16)), (lo8 ((crcS l.flatten) >>> 24))]) rfl rfl (by simp)) hH9 (seg_sub 0 rfl) ?_)
  refine s_op (o_assign (v := (S [(lo8 (crcS l.flatten)), (lo8 ((crcS l.flatten) >>> 8)), (lo8 ((crcS l.flatten) >>> 16)), (lo8 ((crcS l.flatten) >>> 24))])) rfl ?_)
  refine s_nil ?_
  refine t_norm (hK6 _ _ ?_)
  refine wp_ret ?_
  refine c_ret1 Tryz.results143  (v := (S [(lo8 (crcS l.flatten)), (lo8 ((crcS l.flatten) >>> 8)), (lo8 ((crcS l.flatten) >>> 16)), (lo8 ((crcS l.flatten) >>> 24))])) rfl ?_
  have hH10 : Has E w8 [R] := (hH9.front 1 rfl).first 1 rfl
  exact ⟨rfl, hH10⟩
set_option maxHeartbeats 4000000 in
theorem reflaid_c {E w : World} {R : List Hp} (hH : Has E w [R]) (t : List UInt8) (hl : t.length ≤ 9223372036854775807) :
    Calls Tryz.prog 110 #[(S t)] w fun e w' => e = .returned (S (laidS (crcS t))) ∧ Has E w' [R] := by
  refine c_enter (args := [(S t)]) Tryz.func110 rfl Tryz.ntmps110 (by simp) ?_
  refine wp_seq_k fun K1 hK1 => ?_
  refine c_region ?_
  refine s_op (o_assign (v := (S ([] : List UInt8))) rfl ?_)
  refine s_nil ?_
  refine t_norm (hK1 _ _ ?_)
  refine wp_seq_k fun K2 hK2 => ?_
  refine c_region ?_
  refine s_op (o_move (v := (S t)) rfl ?_)
  refine s_op (o_callf (vs := #[(S t)]) ca136 rfl (args1 rfl) (refsum_c hH.all t hl) ?_)
  rintro _ w5 ⟨rfl, hX3⟩
  refine ⟨_, rfl, ?_⟩
  have hH4 := hX3.of_all
  refine s_op (o_assign (v := (.int .u32 ((crcS t).toNat : Int))) rfl ?_)
  refine s_nil ?_
  refine t_norm (hK2 _ _ ?_)
  refine wp_seq_k fun K6 hK6 => ?_
  refine c_region ?_
  refine s_op (o_move (v := (.int .u32 ((crcS t).toNat : Int))) rfl ?_)
  refine s_op (o_rem (a := ((crcS t).toNat : Int)) (b := 256) (c := ((crcS t).toNat : Int) % 256) rfl rfl (by omega) ((Int.tmod_eq_emod_of_nonneg (by first | exact Int.natCast_nonneg _ | omega))) ?_)
  refine s_op (o_conv (c := ((by8 (((crcS t).toNat : Int) % 256)).toNat : Int)) Tryz.underlying160 Tryz.underlying5 rfl (wrap_by8 _) ?_)
  refine s_op (o_move (v := (.int .u32 ((crcS t).toNat : Int))) rfl ?_)
  refine s_op (o_quo (a := (((crcS t)).toNat : Int)) (b := ((256 : Nat) : Int)) (c := (((crcS t) >>> 8).toNat : Int)) rfl rfl (by decide) (quo32 (crcS t) 256 8 (by decide)) ?_)
  refine s_op (o_rem (a := (((crcS t) >>> 8).toNat : Int)) (b := 256) (c := (((crcS t) >>> 8).toNat : Int) % 256) rfl rfl (by omega) ((Int.tmod_eq_emod_of_nonneg (by first | exact Int.natCast_nonneg _ | omega))) ?_)
  refine s_op (o_conv (c := ((by8 ((((crcS t) >>> 8).toNat : Int) % 256)).toNat : Int)) Tryz.underlying160 Tryz.underlying5 rfl (wrap_by8 _) ?_)
  refine s_op (o_move (v := (.int .u32 ((crcS t).toNat : Int))) rfl ?_)
  refine s_op (o_quo (a := (((crcS t)).toNat : Int)) (b := ((65536 : Nat) : Int)) (c := (((crcS t) >>> 16).toNat : Int)) rfl rfl (by decide) (quo32 (crcS t) 65536 16 (by decide)) ?_)
  refine s_op (o_rem (a := (((crcS t) >>> 16).toNat : Int)) (b := 256) (c := (((crcS t) >>> 16).toNat : Int) % 256) rfl rfl (by omega) ((Int.tmod_eq_emod_of_nonneg (by first | exact Int.natCast_nonneg _ | omega))) ?_)
  refine s_op (o_conv (c := ((by8 ((((crcS t) >>> 16).toNat : Int) % 256)).toNat : Int)) Tryz.underlying160 Tryz.underlying5 rfl (wrap_by8 _) ?_)
  refine s_op (o_move (v := (.int .u32 ((crcS t).toNat : Int))) rfl ?_)
  refine s_op (o_quo (a := (((crcS t)).toNat : Int)) (b := ((16777216 : Nat) : Int)) (c := (((crcS t) >>> 24).toNat : Int)) rfl rfl (by decide) (quo32 (crcS t) 16777216 24 (by decide)) ?_)
  refine s_op (o_conv (c := ((lo8 ((crcS t) >>> 24)).toNat : Int)) Tryz.underlying160 Tryz.underlying5 rfl (conv_lo8 _) ?_)
  refine s_op (o_buildSlice (ps := #[(0, (bV (by8 (((crcS t).toNat : Int) % 256)))), (1, (bV (by8 ((((crcS t) >>> 8).toNat : Int) % 256)))), (2, (bV (by8 ((((crcS t) >>> 16).toNat : Int) % 256)))), (3, (bV (lo8 ((crcS t) >>> 24))))]) (cells := #[(bV (by8 (((crcS t).toNat : Int) % 256))), (bV (by8 ((((crcS t) >>> 8).toNat : Int) % 256))), (bV (by8 ((((crcS t) >>> 16).toNat : Int) % 256))), (bV (lo8 ((crcS t) >>> 24)))]) Tryz.underlying54 ti5 (by decide) (parts4 rfl rfl rfl rfl) (by kernel_rfl) hH4 fun b7 w8 hH9 => ?_)
  refine s_op (o_bstr Tryz.underlying54 Tryz.underlying5 Tryz.underlying9 rfl (sl_lit (f := bV) (l := [(by8 (((crcS t).toNat : Int) % 256)), (by8 ((((crcS t) >>> 8).toNat : Int) % 256)), (by8 ((((crcS t) >>> 16).toNat : Int) % 256)), (lo8 ((crcS t) >>> 24))]) rfl rfl (by simp)) hH9 (seg_sub 0 rfl) ?_)
  refine s_op (o_assign (v := (S [(by8 (((crcS t).toNat : Int) % 256)), (by8 ((((crcS t) >>> 8).toNat : Int) % 256)), (by8 ((((crcS t) >>> 16).toNat : Int) % 256)), (lo8 ((crcS t) >>> 24))])) rfl ?_)
  refine s_nil ?_
  refine t_norm (hK6 _ _ ?_)
  refine wp_ret ?_
  refine c_ret1 Tryz.results110  (v := (S [(by8 (((crcS t).toNat : Int) % 256)), (by8 ((((crcS t) >>> 8).toNat : Int) % 256)), (by8 ((((crcS t) >>> 16).toNat : Int) % 256)), (lo8 ((crcS t) >>> 24))])) rfl ?_
  have hH10 : Has E w8 [R] := (hH9.front 1 rfl).first 1 rfl
  exact ⟨by rw [laidS_ref], hH10⟩
set_option maxHeartbeats 4000000 in
theorem seal_c {E w : World} {R : List Hp} (hH : Has E w [R]) (hg : CellsAt R 1 0 nibV) {v : Value} {l : List (List UInt8)} (hv : Sl R 1 v l.length (l.map sV)) (hn : l.length ≤ 1000000) (hl : l.flatten.length ≤ 1000000000) :
    Calls Tryz.prog 123 #[v] w fun e w' => e = .returned (S (sealS l.flatten)) ∧ Has E w' [R] := by
  refine c_enter (args := [v]) Tryz.func123 rfl Tryz.ntmps123 (by simp) ?_
  refine wp_seq_k fun K1 hK1 => ?_
  refine c_region ?_
  refine s_op (o_assign (v := (S ([] : List UInt8))) rfl ?_)
  refine s_nil ?_
  refine t_norm (hK1 _ _ ?_)
  refine wp_seq_k fun K2 hK2 => ?_
  refine c_region ?_
  refine s_op (o_move (v := v) rfl ?_)
  refine s_op (o_callf (vs := #[v, (S ([] : List UInt8))]) ca108 rfl (args2 rfl rfl) (join_c hH.all (hv.mono (seg_sub 0 rfl)) hn hl) ?_)
  rintro _ w5 ⟨rfl, hX3⟩
  refine ⟨_, rfl, ?_⟩
  have hH4 := hX3.of_all
  refine s_op (o_move (v := v) rfl ?_)
  refine s_op (o_callf (vs := #[v]) ca143 rfl (args1 rfl) (laid_c hH4.all (hg.mono (seg_sub 0 rfl)) (hv.mono (seg_sub 0 rfl)) (fun x hx => by have := flat_le hx; omega)) ?_)
  rintro _ w8 ⟨rfl, hX6⟩
  refine ⟨_, rfl, ?_⟩
  have hH7 := hX6.of_all
  refine s_op (o_sadd rfl rfl (by rw [laidS_len]; omega) ?_)
  refine s_op (o_assign (v := (S (l.flatten ++ (laidS (crcS l.flatten))))) rfl ?_)
  refine s_nil ?_
  refine t_norm (hK2 _ _ ?_)
  refine wp_ret ?_
  refine c_ret1 Tryz.results123  (v := (S (l.flatten ++ (laidS (crcS l.flatten))))) rfl ?_
  exact ⟨rfl, hH7⟩
end Go.Q
