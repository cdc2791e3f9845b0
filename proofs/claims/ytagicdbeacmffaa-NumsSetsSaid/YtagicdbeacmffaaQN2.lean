/-
  Parts of a walk: what functions of the program compute, each told by a theorem.
-/
import Derived.Test.YtagicdbeacmffaaQN1
set_option linter.unusedVariables false
set_option linter.unusedSimpArgs false
namespace Go.Q
open Go.Proofs
set_option linter.unusedVariables false
set_option maxRecDepth 100000
attribute [local irreducible] wpList OK Code.wp
set_option maxHeartbeats 4000000 in
theorem put_c {E w : World} {R : List Hp} (hH : Has E w [R]) (m : Nat) {v : Value} {l : List Int} (hv : Ints R v l) (hl : l.length ≤ 1000000) :
    Calls Try.prog 26 #[(.int .i64 (m : Int)), v] w fun e w' => e = .returned (S (putS m l)) ∧ Has E w' [R] := by
  have hml0 : 0 ≤ (m : Int) * (l.length : Int) := Int.mul_nonneg (by omega) (by omega)
  have hml : m ≤ 8 → (m : Int) * (l.length : Int) ≤ 8000000 := fun h => by have h2 : m * l.length ≤ 8 * 1000000 := Nat.mul_le_mul h hl; have h3 := Int.ofNat_le.2 h2; rw [Int.natCast_mul] at h3; omega
  refine c_enter (args := [(.int .i64 (m : Int)), v]) Try.func26 rfl Try.ntmps26 (by simp) ?_
  refine wp_seq_k fun K1 hK1 => ?_
  refine c_region ?_
  refine s_op (o_assign (v := (S ([] : List UInt8))) rfl ?_)
  refine s_nil ?_
  refine t_norm (hK1 _ _ ?_)
  refine wp_seq_k fun K2 hK2 => ?_
  refine wp_seq_k fun K3 hK3 => ?_
  refine c_region ?_
  refine s_op (o_move (v := (.int .i64 (m : Int))) rfl ?_)
  refine s_op (o_lss (a := (m : Int)) (b := 1) rfl rfl ?_)
  refine s_op (o_move (v := (.bool (decide ((m : Int) < 1)))) rfl ?_)
  by_cases h4 : (m : Int) < 1
  · -- (m : Int) < 1
    refine s_off (b' := true) 11 rfl (congrArg Value.bool (decide_eq_true h4)) rfl ?_
    refine s_off (b' := true) 11 rfl (congrArg Value.bool (decide_eq_true h4)) rfl ?_
    refine s_op (o_pick_t (u := (.bool true)) ((rfl : _ = _).trans (congrArg Value.bool (decide_eq_true h4))) rfl ?_)
    refine s_nil ?_
    refine t_norm (hK3 _ _ ?_)
    refine c_true rfl rfl ?_
    refine wp_seq_k fun K5 hK5 => ?_
    refine c_region ?_
    refine s_op (o_assign (v := (S ([] : List UInt8))) rfl ?_)
    refine s_nil ?_
    refine t_norm (hK5 _ _ ?_)
    refine wp_ret ?_
    refine t_ret (c_ret1 Try.results26 (v := (S ([] : List UInt8))) rfl ?_)
    exact ⟨by rw [putS, if_neg (by omega)], hH⟩
  · -- not: (m : Int) < 1
    refine s_on 11 rfl (congrArg Value.bool (decide_eq_false h4)) (o_move (v := (.int .i64 (m : Int))) rfl ?_)
    refine s_on 11 rfl (congrArg Value.bool (decide_eq_false h4)) (o_gtr (a := (m : Int)) (b := 8) rfl rfl ?_)
    refine s_op (o_pick_f (u := (.bool (decide (8 < (m : Int))))) ((rfl : _ = _).trans (congrArg Value.bool (decide_eq_false h4))) rfl ?_)
    refine s_nil ?_
    refine t_norm (hK3 _ _ ?_)
    refine c_cond rfl (fun h6 => ?_) (fun h6 => ?_)
    · -- 8 < (m : Int)
      refine wp_seq_k fun K7 hK7 => ?_
      refine c_region ?_
      refine s_op (o_assign (v := (S ([] : List UInt8))) rfl ?_)
      refine s_nil ?_
      refine t_norm (hK7 _ _ ?_)
      refine wp_ret ?_
      refine t_ret (c_ret1 Try.results26 (v := (S ([] : List UInt8))) rfl ?_)
      exact ⟨by rw [putS, if_neg (by omega)], hH⟩
    · -- not: 8 < (m : Int)
      refine wp_skip ?_
      refine t_norm (hK2 _ _ ?_)
      refine wp_seq_k fun K8 hK8 => ?_
      refine c_region ?_
      refine s_op (o_move (v := (.int .i64 (m : Int))) rfl ?_)
      refine s_op (o_move (v := v) rfl ?_)
      refine s_op (o_lenS Try.underlying28 rfl hv ?_)
      refine s_op (o_mul (a := (m : Int)) (b := ((l.length : Nat) : Int)) rfl rfl (w64 (by omega) (by omega)) ?_)
      refine s_op (o_make Try.underlying78 ti5 rfl rfl (by omega) (by omega) (by omega) (by omega) hH fun v9 s10 w12 ho11 hH13 => ?_)
      have ho11 : Own 5 1 v9 0 [] s10 := by simpa using ho11
      refine s_op (o_assign (v := v9) rfl ?_)
      refine s_nil ?_
      refine t_norm (hK8 _ _ ?_)
      refine wp_seq_k fun K14 hK14 => ?_
      refine wp_seq_k fun K15 hK15 => ?_
      refine c_region ?_
      refine s_op (o_move (v := v) rfl ?_)
      refine s_op (o_lenS Try.underlying28 rfl hv ?_)
      refine s_op (o_move (v := (.int .i64 0)) rfl ?_)
      refine s_nil ?_
      refine t_norm (hK15 _ _ ?_)
      refine wp_block ?_
      let I16 : Nat → (Nat → Value) → World → Prop := fun n r w => ∃ (k : Nat) (vb : Value) (hs : List Hp) (lb : List UInt8) (u1_4 u1_7 u1_8 u1_23 u1_24 u1_25 u1_26 u1_27 u1_28 u1_29 u1_30 u1_31 u1_32 u1_33 u1_34 u1_35 u1_36 u1_37 u1_38 u1_39 u1_40 u1_41 u1_42 u1_43 u1_44 : Value), n = l.length - k ∧ r = base [(.int .i64 (m : Int)), v, undef, undef, u1_4, vb, undef, u1_7, u1_8, (.int .i64 (m : Int)), (.bool (decide ((m : Int) < 1))), (.bool (decide ((m : Int) < 1))), (.int .i64 (m : Int)), (.bool (decide (8 < (m : Int)))), (.bool (decide (8 < (m : Int)))), (.int .i64 (m : Int)), v, (.int .i64 ((l.length : Nat) : Int)), (.int .i64 ((m : Int) * ((l.length : Nat) : Int))), v9, v, (.int .i64 ((l.length : Nat) : Int)), (.int .i64 (k : Int)), u1_23, u1_24, u1_25, u1_26, u1_27, u1_28, u1_29, u1_30, u1_31, u1_32, u1_33, u1_34, u1_35, u1_36, u1_37, u1_38, u1_39, u1_40, u1_41, u1_42, u1_43, u1_44, undef, undef] ∧ Has E w [hs, R] ∧ (k ≤ l.length) ∧ (Own 5 1 vb lb.length (lb.map bV) hs) ∧ (lb = (l.take k).flatMap (beFrom · m)) ∧ (∀ x ∈ l.take k, fitsS x m = true) ∧ (lb.length ≤ 8 * k)
      rw [show Go.Q.fr 47 _ = Go.Q.fr 47 (base [(.int .i64 (m : Int)), v, undef, undef, (S ([] : List UInt8)), v9, undef, undef, undef, (.int .i64 (m : Int)), (.bool (decide ((m : Int) < 1))), (.bool (decide ((m : Int) < 1))), (.int .i64 (m : Int)), (.bool (decide (8 < (m : Int)))), (.bool (decide (8 < (m : Int)))), (.int .i64 (m : Int)), v, (.int .i64 ((l.length : Nat) : Int)), (.int .i64 ((m : Int) * ((l.length : Nat) : Int))), v9, v, (.int .i64 ((l.length : Nat) : Int)), (.int .i64 (0 : Int)), undef, undef, undef, undef, undef, undef, undef, undef, undef, undef, undef, undef, undef, undef, undef, undef, undef, undef, undef, undef, undef, undef, undef, undef]) from fr_lit (by rfl)]
      refine c_loop I16 _ ⟨0, v9, s10, [], (S ([] : List UInt8)), undef, undef, undef, undef, undef, undef, undef, undef, undef, undef, undef, undef, undef, undef, undef, undef, undef, undef, undef, undef, undef, undef, undef, undef, rfl, rfl, hH13, Nat.zero_le _, ho11, rfl, (by simp), (by simp)⟩ ?_
      rintro n_ r_ w17 ⟨k, vb, hs, lb, u1_4, u1_7, u1_8, u1_23, u1_24, u1_25, u1_26, u1_27, u1_28, u1_29, u1_30, u1_31, u1_32, u1_33, u1_34, u1_35, u1_36, u1_37, u1_38, u1_39, u1_40, u1_41, u1_42, u1_43, u1_44, rfl, rfl, hH18, hk, hob, hlb, hfit, hlen⟩
      refine wp_seq_k fun K19 hK19 => ?_
      refine c_region ?_
      refine s_op (o_lss (a := (k : Int)) (b := ((l.length : Nat) : Int)) rfl rfl ?_)
      refine s_nil ?_
      refine t_norm (hK19 _ _ ?_)
      refine wp_seq_k fun K20 hK20 => ?_
      refine c_cond rfl (fun h21 => ?_) (fun h21 => ?_)
      · -- (k : Int) < ((l.length : Nat) : Int)
        refine wp_skip ?_
        refine t_norm (hK20 _ _ ?_)
        refine wp_seq_k fun K22 hK22 => ?_
        refine wp_block ?_
        refine wp_seq_k fun K23 hK23 => ?_
        refine c_region ?_
        obtain ⟨x27, hx28⟩ : ∃ x, l[((k : Int)).toNat]? = some x := get_some (by omega)
        refine s_op (o_index1 Try.underlying28 ti3 rfl hv rfl (by omega) hx28 fun b24 o25 hc26 => ?_)
        refine s_op (o_load1 (v := (.int .i64 x27)) Try.underlying3 rfl rfl hH18 (seg_sub 1 rfl) hc26 ?_)
        refine s_op (o_assign (v := (.int .i64 x27)) rfl ?_)
        refine s_nil ?_
        refine t_norm (hK23 _ _ ?_)
        refine wp_seq_k fun K29 hK29 => ?_
        refine wp_seq_k fun K30 hK30 => ?_
        refine c_region ?_
        refine s_op (o_move (v := (.int .i64 x27)) rfl ?_)
        refine s_op (o_move (v := (.int .i64 (m : Int))) rfl ?_)
        refine s_op (o_callf (vs := #[(.int .i64 x27), (.int .i64 (m : Int))]) ca47 rfl (args2 rfl rfl) (fits_c hH18.all x27 m (by omega)) ?_)
        rintro _ w33 ⟨rfl, hX31⟩
        refine ⟨_, rfl, ?_⟩
        have hH32 := hX31.of_all
        refine s_op (o_not rfl ?_)
        refine s_nil ?_
        refine t_norm (hK30 _ _ ?_)
        refine c_condb rfl (fun h34 => ?_) (fun h34 => ?_)
        · -- !(fitsS x27 m)
          refine wp_seq_k fun K35 hK35 => ?_
          refine c_region ?_
          refine s_op (o_assign (v := (S ([] : List UInt8))) rfl ?_)
          refine s_nil ?_
          refine t_norm (hK35 _ _ ?_)
          refine wp_ret ?_
          refine t_ret (b_ret (t_ret (t_ret (b_ret (t_ret (c_ret1 Try.results26 (v := (S ([] : List UInt8))) rfl ?_))))))
          have hH36 : Has E w33 [R] := (hH32.front 1 rfl).first 1 rfl
          exact ⟨by rw [putS_no (x := x27) (List.mem_of_getElem? hx28) (by simpa using h34)], hH36⟩
        · -- not: !(fitsS x27 m)
          refine wp_skip ?_
          refine t_norm (hK29 _ _ ?_)
          refine wp_seq_k fun K37 hK37 => ?_
          refine c_region ?_
          refine s_op (o_move (v := (.int .i64 (m : Int))) rfl ?_)
          refine s_op (o_sub (a := (m : Int)) (b := 1) rfl rfl (w64 (by omega) (by omega)) ?_)
          refine s_op (o_assign (v := (.int .i64 ((m : Int) - 1))) rfl ?_)
          refine s_nil ?_
          refine t_norm (hK37 _ _ ?_)
          refine wp_block ?_
          let I38 : Nat → (Nat → Value) → World → Prop := fun n r w => ∃ (j : Nat) (i : Int) (vc : Value) (hs2 : List Hp) (lc : List UInt8) (u2_32 u2_33 u2_34 u2_35 u2_36 u2_37 u2_38 u2_39 u2_40 u2_41 u2_42 u2_43 : Value), n = j + 1 ∧ r = base [(.int .i64 (m : Int)), v, undef, undef, u1_4, vc, undef, (.int .i64 x27), (.int .i64 i), (.int .i64 (m : Int)), (.bool (decide ((m : Int) < 1))), (.bool (decide ((m : Int) < 1))), (.int .i64 (m : Int)), (.bool (decide (8 < (m : Int)))), (.bool (decide (8 < (m : Int)))), (.int .i64 (m : Int)), v, (.int .i64 ((l.length : Nat) : Int)), (.int .i64 ((m : Int) * ((l.length : Nat) : Int))), v9, v, (.int .i64 ((l.length : Nat) : Int)), (.int .i64 (k : Int)), (.bool (decide ((k : Int) < ((l.length : Nat) : Int)))), (.pointer (some ⟨b24, o25, none⟩)), (.int .i64 x27), (.int .i64 x27), (.int .i64 (m : Int)), (.bool (fitsS x27 m)), (.bool (!(fitsS x27 m))), (.int .i64 (m : Int)), (.int .i64 ((m : Int) - 1)), u2_32, u2_33, u2_34, u2_35, u2_36, u2_37, u2_38, u2_39, u2_40, u2_41, u2_42, u2_43, u1_44, undef, undef] ∧ Has E w [hs2, R] ∧ (j ≤ m) ∧ (i = (j : Int) - 1) ∧ (Own 5 1 vc lc.length (lc.map bV) hs2) ∧ (lb ++ beFrom x27 m = lc ++ beFrom x27 j) ∧ (lc.length + j ≤ lb.length + m)
          rw [show Go.Q.fr 47 _ = Go.Q.fr 47 (base [(.int .i64 (m : Int)), v, undef, undef, u1_4, vb, undef, (.int .i64 x27), (.int .i64 ((m : Int) - 1)), (.int .i64 (m : Int)), (.bool (decide ((m : Int) < 1))), (.bool (decide ((m : Int) < 1))), (.int .i64 (m : Int)), (.bool (decide (8 < (m : Int)))), (.bool (decide (8 < (m : Int)))), (.int .i64 (m : Int)), v, (.int .i64 ((l.length : Nat) : Int)), (.int .i64 ((m : Int) * ((l.length : Nat) : Int))), v9, v, (.int .i64 ((l.length : Nat) : Int)), (.int .i64 (k : Int)), (.bool (decide ((k : Int) < ((l.length : Nat) : Int)))), (.pointer (some ⟨b24, o25, none⟩)), (.int .i64 x27), (.int .i64 x27), (.int .i64 (m : Int)), (.bool (fitsS x27 m)), (.bool (!(fitsS x27 m))), (.int .i64 (m : Int)), (.int .i64 ((m : Int) - 1)), u1_32, u1_33, u1_34, u1_35, u1_36, u1_37, u1_38, u1_39, u1_40, u1_41, u1_42, u1_43, u1_44, undef, undef]) from fr_lit (by rfl)]
          refine c_loop I38 _ ⟨m, ((m : Int) - 1), vb, hs, lb, u1_32, u1_33, u1_34, u1_35, u1_36, u1_37, u1_38, u1_39, u1_40, u1_41, u1_42, u1_43, rfl, rfl, hH32, Nat.le_refl _, rfl, hob, rfl, (by omega)⟩ ?_
          rintro n_ r_ w39 ⟨j, i, vc, hs2, lc, u2_32, u2_33, u2_34, u2_35, u2_36, u2_37, u2_38, u2_39, u2_40, u2_41, u2_42, u2_43, rfl, rfl, hH40, hj, hi, hoc, hpart, hlen2⟩
          refine wp_seq_k fun K41 hK41 => ?_
          refine wp_seq_k fun K42 hK42 => ?_
          refine c_region ?_
          refine s_op (o_move (v := (.int .i64 i)) rfl ?_)
          refine s_op (o_geq (a := i) (b := 0) rfl rfl ?_)
          refine s_nil ?_
          refine t_norm (hK42 _ _ ?_)
          refine c_cond rfl (fun h43 => ?_) (fun h43 => ?_)
          · -- 0 ≤ i
            refine wp_skip ?_
            refine t_norm (hK41 _ _ ?_)
            refine wp_seq_k fun K44 hK44 => ?_
            refine wp_block ?_
            refine c_region ?_
            refine s_op (o_move (v := vc) rfl ?_)
            refine s_op (o_move (v := (.int .i64 x27)) rfl ?_)
            refine s_op (o_move (v := (.int .i64 i)) rfl ?_)
            refine s_op (o_mul (a := 8) (b := i) rfl rfl (w64 (by omega) (by omega)) ?_)
            refine s_op (o_shr (c := Int.fdiv x27 (2 ^ (min (8 * i).toNat 64))) rfl rfl (by omega) rfl ?_)
            refine s_op (o_conv (c := ((by8 (Int.fdiv x27 (2 ^ (min (8 * i).toNat 64)))).toNat : Int)) Try.underlying3 Try.underlying5 rfl (wrap_by8 _) ?_)
            refine s_op (o_buildSlice (ps := #[(0, (bV (by8 (Int.fdiv x27 (2 ^ (min (8 * i).toNat 64))))))]) (cells := #[(bV (by8 (Int.fdiv x27 (2 ^ (min (8 * i).toNat 64)))))]) Try.underlying78 ti5 (by decide) (parts1 rfl) (by kernel_rfl) hH40 fun b45 w46 hH47 => ?_)
            refine s_op (o_append Try.underlying78 ti5 rfl (by decide) rfl hoc rfl (sl_lit (f := bV) (l := [(by8 (Int.fdiv x27 (2 ^ (min (8 * i).toNat 64))))]) rfl rfl (by decide)) (hH47.front 1 rfl) (seg_sub 0 rfl) (one_bV _) (by simp; omega) (by simp; omega) fun v48 s49 w51 ho50 hH52 => ?_)
            have ho50 : Own 5 1 v48 (lc ++ [(by8 (Int.fdiv x27 (2 ^ (min (8 * i).toNat 64))))]).length ((lc ++ [(by8 (Int.fdiv x27 (2 ^ (min (8 * i).toNat 64))))]).map bV) s49 := ho50.app
            refine s_op (o_assign (v := v48) rfl ?_)
            refine s_nil ?_
            refine b_norm ?_
            refine t_norm (hK44 _ _ ?_)
            refine c_region ?_
            refine s_op (o_move (v := (.int .i64 i)) rfl ?_)
            refine s_op (o_sub (a := i) (b := 1) rfl rfl (w64 (by omega) (by omega)) ?_)
            refine s_op (o_assign (v := (.int .i64 (i - 1))) rfl ?_)
            refine s_nil ?_
            have hH53 : Has E w51 [s49, R] := ((hH52.front 2 rfl).front 1 rfl).first 2 rfl
            refine t_norm ⟨(j - 1) + 1, base [(.int .i64 (m : Int)), v, undef, undef, u1_4, v48, undef, (.int .i64 x27), (.int .i64 (i - 1)), (.int .i64 (m : Int)), (.bool (decide ((m : Int) < 1))), (.bool (decide ((m : Int) < 1))), (.int .i64 (m : Int)), (.bool (decide (8 < (m : Int)))), (.bool (decide (8 < (m : Int)))), (.int .i64 (m : Int)), v, (.int .i64 ((l.length : Nat) : Int)), (.int .i64 ((m : Int) * ((l.length : Nat) : Int))), v9, v, (.int .i64 ((l.length : Nat) : Int)), (.int .i64 (k : Int)), (.bool (decide ((k : Int) < ((l.length : Nat) : Int)))), (.pointer (some ⟨b24, o25, none⟩)), (.int .i64 x27), (.int .i64 x27), (.int .i64 (m : Int)), (.bool (fitsS x27 m)), (.bool (!(fitsS x27 m))), (.int .i64 (m : Int)), (.int .i64 ((m : Int) - 1)), (.int .i64 i), (.bool (decide (0 ≤ i))), (.int .i64 i), (.int .i64 (i - 1)), vc, (.int .i64 x27), (.int .i64 i), (.int .i64 (8 * i)), (.int .i64 (Int.fdiv x27 (2 ^ (min (8 * i).toNat 64)))), (bV (by8 (Int.fdiv x27 (2 ^ (min (8 * i).toNat 64))))), (.slice (some ⟨b45, 0, none⟩) 1 1), v48, u1_44, undef, undef], fr_lit (by rfl), ?_, ?_⟩
            · omega
            · exact ⟨(j - 1), (i - 1), v48, s49, (lc ++ [(by8 (Int.fdiv x27 (2 ^ (min (8 * i).toNat 64))))]), _, _, _, _, _, _, _, _, _, _, _, _, rfl, rfl, hH53, (by omega), (by omega), (ho50), (by rw [hpart, beFrom_pred (by omega), hi, by8_shift _ (by omega) (by omega)]; simp [List.append_assoc]), (by simp; omega)⟩
          · -- not: 0 ≤ i
            refine wp_exit ?_
            refine t_exit (t_exit (x_in (?_)))
            refine b_norm ?_
            refine t_norm (hK22 _ _ ?_)
            refine c_region ?_
            refine s_op (o_add (a := (k : Int)) (b := 1) rfl rfl (w64 (by omega) (by omega)) ?_)
            refine s_op (o_move (v := (.int .i64 ((k : Int) + 1))) rfl ?_)
            refine s_nil ?_
            refine t_norm ⟨l.length - (k + 1), base [(.int .i64 (m : Int)), v, undef, undef, u1_4, vc, undef, (.int .i64 x27), (.int .i64 i), (.int .i64 (m : Int)), (.bool (decide ((m : Int) < 1))), (.bool (decide ((m : Int) < 1))), (.int .i64 (m : Int)), (.bool (decide (8 < (m : Int)))), (.bool (decide (8 < (m : Int)))), (.int .i64 (m : Int)), v, (.int .i64 ((l.length : Nat) : Int)), (.int .i64 ((m : Int) * ((l.length : Nat) : Int))), v9, v, (.int .i64 ((l.length : Nat) : Int)), (.int .i64 ((k : Int) + 1)), (.bool (decide ((k : Int) < ((l.length : Nat) : Int)))), (.pointer (some ⟨b24, o25, none⟩)), (.int .i64 x27), (.int .i64 x27), (.int .i64 (m : Int)), (.bool (fitsS x27 m)), (.bool (!(fitsS x27 m))), (.int .i64 (m : Int)), (.int .i64 ((m : Int) - 1)), (.int .i64 i), (.bool (decide (0 ≤ i))), u2_34, u2_35, u2_36, u2_37, u2_38, u2_39, u2_40, u2_41, u2_42, u2_43, (.int .i64 ((k : Int) + 1)), undef, undef], fr_lit (by rfl), ?_, ?_⟩
            · omega
            · exact ⟨(k + 1), vc, hs2, lc, _, _, _, _, _, _, _, _, _, _, _, _, _, _, _, _, _, _, _, _, _, _, _, _, _, rfl, rfl, hH40, (by omega), (hoc), (by (have e : j = 0 := by omega); rw [e] at hpart; rw [take_succ_of (by simpa using hx28), List.flatMap_append, ← hlb]; simpa [beFrom] using hpart.symm), (by rw [take_succ_of (by simpa using hx28)]; exact fun x hx => (List.mem_append.1 hx).elim (hfit x) (fun h => by simp at h; subst h; simpa using h34)), (by omega)⟩
      · -- not: (k : Int) < ((l.length : Nat) : Int)
        refine wp_exit ?_
        refine t_exit (t_exit (x_in (?_)))
        refine t_norm (hK14 _ _ ?_)
        refine wp_seq_k fun K54 hK54 => ?_
        refine c_region ?_
        refine s_op (o_move (v := vb) rfl ?_)
        refine s_op (o_bstr Try.underlying78 Try.underlying5 Try.underlying9 rfl hob.sl hH18 (seg_sub 0 rfl) ?_)
        refine s_op (o_assign (v := (S lb)) rfl ?_)
        refine s_nil ?_
        refine t_norm (hK54 _ _ ?_)
        refine wp_ret ?_
        refine c_ret1 Try.results26 (v := (S lb)) rfl ?_
        have hH55 : Has E w17 [R] := (hH18.front 1 rfl).first 1 rfl
        have e : k = l.length := by omega
        subst e
        rw [List.take_of_length_le (Nat.le_refl _)] at hlb hfit
        exact ⟨by rw [putS_yes (by omega) (by omega) hfit, hlb], hH55⟩
end Go.Q
