/-
  Parts of a walk: what functions of the program compute, each told by a theorem.
-/
import Derived.Test.YtagicdbeacmffaaQI
import Derived.Test.YtagicdbeacmffaaQM
import Derived.Test.YtagicdbeacmffaaQBase
set_option linter.unusedVariables false
set_option linter.unusedSimpArgs false
namespace Go.Q
open Go.Proofs
set_option linter.unusedVariables false
set_option maxRecDepth 100000
attribute [local irreducible] wpList OK Code.wp
set_option maxHeartbeats 4000000 in
theorem refTake_c {E w : World} {R : List Hp} (hH : Has E w [R]) (m : Nat) (s : List UInt8) (hsl : s.length ≤ 9223372036854775807) :
    Calls Try.prog 30 #[(S s), (.int .i64 (m : Int))] w fun e w' => e = .returned (.tuple #[.int .i64 (takeS s m).1, .bool (takeS s m).2.2]) ∧ Has E w' [R] := by
  refine c_enter (args := [(S s), (.int .i64 (m : Int))]) Try.func30 rfl Try.ntmps30 (by simp) ?_
  refine wp_seq_k fun K1 hK1 => ?_
  refine c_region ?_
  refine s_op (o_assign (v := (.int .i64 0)) rfl ?_)
  refine s_op (o_assign (v := (.bool false)) rfl ?_)
  refine s_nil ?_
  refine t_norm (hK1 _ _ ?_)
  refine wp_seq_k fun K2 hK2 => ?_
  refine wp_seq_k fun K3 hK3 => ?_
  refine c_region ?_
  refine s_op (o_move (v := (.int .i64 (m : Int))) rfl ?_)
  refine s_op (o_lss (a := (m : Int)) (b := 1) rfl rfl ?_)
  refine s_op (o_move (v := (.bool (decide ((m : Int) < 1)))) rfl ?_)
  by_cases h4 : (m : Int) < 1
  · -- (m : Int) < 1
    refine s_off (b' := true) 10 rfl (congrArg Value.bool (decide_eq_true h4)) rfl ?_
    refine s_off (b' := true) 10 rfl (congrArg Value.bool (decide_eq_true h4)) rfl ?_
    refine s_op (o_pick_t (u := (.bool true)) ((rfl : _ = _).trans (congrArg Value.bool (decide_eq_true h4))) rfl ?_)
    refine s_op (o_move (v := (.bool true)) rfl ?_)
    refine s_off (b' := true) 14 rfl rfl rfl ?_
    refine s_off (b' := true) 14 rfl rfl rfl ?_
    refine s_off (b' := true) 14 rfl rfl rfl ?_
    refine s_off (b' := true) 14 rfl rfl rfl ?_
    refine s_op (o_pick_t (u := (.bool true)) rfl rfl ?_)
    refine s_op (o_move (v := (.bool true)) rfl ?_)
    refine s_off (b' := true) 20 rfl rfl rfl ?_
    refine s_off (b' := true) 20 rfl rfl rfl ?_
    refine s_off (b' := true) 20 rfl rfl rfl ?_
    refine s_offu 23 rfl rfl ?_
    refine s_offu 23 rfl rfl ?_
    refine s_offu 23 rfl rfl ?_
    refine s_off (b' := true) 20 rfl rfl rfl ?_
    refine s_op (o_pick_t (u := (.bool true)) rfl rfl ?_)
    refine s_nil ?_
    refine t_norm (hK3 _ _ ?_)
    refine c_true rfl rfl ?_
    refine wp_seq_k fun K5 hK5 => ?_
    refine c_region ?_
    refine s_op (o_assign (v := (.int .i64 0)) rfl ?_)
    refine s_op (o_assign (v := (.bool false)) rfl ?_)
    refine s_nil ?_
    refine t_norm (hK5 _ _ ?_)
    refine wp_ret ?_
    refine t_ret (c_ret2 Try.results30 (v := (.int .i64 0)) rfl (x := (.bool false)) rfl ?_)
    exact ⟨by rw [takeS_no (by first | exact .inl (by omega) | exact .inr (.inl (by omega)) | exact .inr (.inr ⟨by omega, 0, by simpa using rfl, by omega⟩))], hH⟩
  · -- not: (m : Int) < 1
    refine s_on 10 rfl (congrArg Value.bool (decide_eq_false h4)) (o_move (v := (.int .i64 (m : Int))) rfl ?_)
    refine s_on 10 rfl (congrArg Value.bool (decide_eq_false h4)) (o_gtr (a := (m : Int)) (b := 8) rfl rfl ?_)
    refine s_op (o_pick_f (u := (.bool (decide (8 < (m : Int))))) ((rfl : _ = _).trans (congrArg Value.bool (decide_eq_false h4))) rfl ?_)
    refine s_op (o_move (v := (.bool (decide (8 < (m : Int))))) rfl ?_)
    by_cases h6 : 8 < (m : Int)
    · -- 8 < (m : Int)
      refine s_off (b' := true) 14 rfl (congrArg Value.bool (decide_eq_true h6)) rfl ?_
      refine s_off (b' := true) 14 rfl (congrArg Value.bool (decide_eq_true h6)) rfl ?_
      refine s_off (b' := true) 14 rfl (congrArg Value.bool (decide_eq_true h6)) rfl ?_
      refine s_off (b' := true) 14 rfl (congrArg Value.bool (decide_eq_true h6)) rfl ?_
      refine s_op (o_pick_t (u := (.bool true)) ((rfl : _ = _).trans (congrArg Value.bool (decide_eq_true h6))) rfl ?_)
      refine s_op (o_move (v := (.bool true)) rfl ?_)
      refine s_off (b' := true) 20 rfl rfl rfl ?_
      refine s_off (b' := true) 20 rfl rfl rfl ?_
      refine s_off (b' := true) 20 rfl rfl rfl ?_
      refine s_offu 23 rfl rfl ?_
      refine s_offu 23 rfl rfl ?_
      refine s_offu 23 rfl rfl ?_
      refine s_off (b' := true) 20 rfl rfl rfl ?_
      refine s_op (o_pick_t (u := (.bool true)) rfl rfl ?_)
      refine s_nil ?_
      refine t_norm (hK3 _ _ ?_)
      refine c_true rfl rfl ?_
      refine wp_seq_k fun K7 hK7 => ?_
      refine c_region ?_
      refine s_op (o_assign (v := (.int .i64 0)) rfl ?_)
      refine s_op (o_assign (v := (.bool false)) rfl ?_)
      refine s_nil ?_
      refine t_norm (hK7 _ _ ?_)
      refine wp_ret ?_
      refine t_ret (c_ret2 Try.results30 (v := (.int .i64 0)) rfl (x := (.bool false)) rfl ?_)
      exact ⟨by rw [takeS_no (by first | exact .inl (by omega) | exact .inr (.inl (by omega)) | exact .inr (.inr ⟨by omega, 0, by simpa using rfl, by omega⟩))], hH⟩
    · -- not: 8 < (m : Int)
      refine s_on 14 rfl (congrArg Value.bool (decide_eq_false h6)) (o_move (v := (S s)) rfl ?_)
      refine s_on 14 rfl (congrArg Value.bool (decide_eq_false h6)) (o_slen Try.underlying9 rfl ?_)
      refine s_on 14 rfl (congrArg Value.bool (decide_eq_false h6)) (o_move (v := (.int .i64 (m : Int))) rfl ?_)
      refine s_on 14 rfl (congrArg Value.bool (decide_eq_false h6)) (o_lss (a := (s.length : Int)) (b := (m : Int)) rfl rfl ?_)
      refine s_op (o_pick_f (u := (.bool (decide ((s.length : Int) < (m : Int))))) ((rfl : _ = _).trans (congrArg Value.bool (decide_eq_false h6))) rfl ?_)
      refine s_op (o_move (v := (.bool (decide ((s.length : Int) < (m : Int))))) rfl ?_)
      by_cases h8 : (s.length : Int) < (m : Int)
      · -- (s.length : Int) < (m : Int)
        refine s_off (b' := true) 20 rfl (congrArg Value.bool (decide_eq_true h8)) rfl ?_
        refine s_off (b' := true) 20 rfl (congrArg Value.bool (decide_eq_true h8)) rfl ?_
        refine s_off (b' := true) 20 rfl (congrArg Value.bool (decide_eq_true h8)) rfl ?_
        refine s_offu 23 rfl rfl ?_
        refine s_offu 23 rfl rfl ?_
        refine s_offu 23 rfl rfl ?_
        refine s_off (b' := true) 20 rfl (congrArg Value.bool (decide_eq_true h8)) rfl ?_
        refine s_op (o_pick_t (u := (.bool true)) ((rfl : _ = _).trans (congrArg Value.bool (decide_eq_true h8))) rfl ?_)
        refine s_nil ?_
        refine t_norm (hK3 _ _ ?_)
        refine c_true rfl rfl ?_
        refine wp_seq_k fun K9 hK9 => ?_
        refine c_region ?_
        refine s_op (o_assign (v := (.int .i64 0)) rfl ?_)
        refine s_op (o_assign (v := (.bool false)) rfl ?_)
        refine s_nil ?_
        refine t_norm (hK9 _ _ ?_)
        refine wp_ret ?_
        refine t_ret (c_ret2 Try.results30 (v := (.int .i64 0)) rfl (x := (.bool false)) rfl ?_)
        exact ⟨by rw [takeS_no (by first | exact .inl (by omega) | exact .inr (.inl (by omega)) | exact .inr (.inr ⟨by omega, 0, by simpa using rfl, by omega⟩))], hH⟩
      · -- not: (s.length : Int) < (m : Int)
        refine s_on 20 rfl (congrArg Value.bool (decide_eq_false h8)) (o_move (v := (.int .i64 (m : Int))) rfl ?_)
        refine s_on 20 rfl (congrArg Value.bool (decide_eq_false h8)) (o_eql (a := (m : Int)) (b := 8) rfl rfl ?_)
        refine s_on 20 rfl (congrArg Value.bool (decide_eq_false h8)) (o_move (v := (.bool (decide ((m : Int) = 8)))) rfl ?_)
        by_cases h10 : (m : Int) = 8
        · -- (m : Int) = 8
          refine s_on 23 rfl (congrArg Value.bool (decide_eq_true h10)) (o_move (v := (S s)) rfl ?_)
          obtain ⟨c11, hx12⟩ : ∃ x, s[((0 : Int)).toNat]? = some x := get_some (by omega)
          have c11_lt := c11.toNat_lt
          refine s_on 23 rfl (congrArg Value.bool (decide_eq_true h10)) (o_sidx Try.underlying9 rfl rfl (by omega) hx12 ?_)
          refine s_on 23 rfl (congrArg Value.bool (decide_eq_true h10)) (o_geq (a := (c11.toNat : Int)) (b := 128) rfl rfl ?_)
          refine s_on 20 rfl (congrArg Value.bool (decide_eq_false h8)) (o_pick_t (u := (.bool (decide (128 ≤ (c11.toNat : Int))))) ((rfl : _ = _).trans (congrArg Value.bool (decide_eq_true h10))) rfl ?_)
          refine s_op (o_pick_f (u := (.bool (decide (128 ≤ (c11.toNat : Int))))) ((rfl : _ = _).trans (congrArg Value.bool (decide_eq_false h8))) rfl ?_)
          refine s_nil ?_
          refine t_norm (hK3 _ _ ?_)
          refine c_cond rfl (fun h13 => ?_) (fun h13 => ?_)
          · -- 128 ≤ (c11.toNat : Int)
            refine wp_seq_k fun K14 hK14 => ?_
            refine c_region ?_
            refine s_op (o_assign (v := (.int .i64 0)) rfl ?_)
            refine s_op (o_assign (v := (.bool false)) rfl ?_)
            refine s_nil ?_
            refine t_norm (hK14 _ _ ?_)
            refine wp_ret ?_
            refine t_ret (c_ret2 Try.results30 (v := (.int .i64 0)) rfl (x := (.bool false)) rfl ?_)
            exact ⟨by rw [takeS_no (by first | exact .inl (by omega) | exact .inr (.inl (by omega)) | exact .inr (.inr ⟨by omega, c11, by simpa using hx12, by omega⟩))], hH⟩
          · -- not: 128 ≤ (c11.toNat : Int)
            refine wp_skip ?_
            refine t_norm (hK2 _ _ ?_)
            refine wp_seq_k fun K15 hK15 => ?_
            refine c_region ?_
            refine s_op (o_assign (v := (.int .i64 0)) rfl ?_)
            refine s_nil ?_
            refine t_norm (hK15 _ _ ?_)
            refine wp_seq_k fun K16 hK16 => ?_
            refine wp_seq_k fun K17 hK17 => ?_
            refine c_region ?_
            refine s_op (o_assign (v := (.int .i64 0)) rfl ?_)
            refine s_nil ?_
            refine t_norm (hK17 _ _ ?_)
            refine wp_block ?_
            let I19 : Nat → (Nat → Value) → World → Prop := fun n__ r__ w__ => ∃ (i : Nat) (y : Int), n__ = m - i ∧ Has E w__ [R] ∧ (i ≤ m) ∧ (y = beVal (s.take i)) ∧ r__ 0 = (S s) ∧ r__ 1 = (.int .i64 (m : Int)) ∧ r__ 4 = (.int .i64 0) ∧ r__ 5 = (.bool false) ∧ r__ 6 = (.int .i64 y) ∧ r__ 7 = (.int .i64 (i : Int)) ∧ r__ 28 = (.bool (decide (128 ≤ (c11.toNat : Int))))
            refine c_loop I19 _ ⟨0, 0, rfl, hH, Nat.zero_le _, rfl, rfl, rfl, rfl, rfl, rfl, rfl, rfl⟩ ?_
            rintro n_ r22 w20 ⟨i, y, rfl, hH21, hi, hy, e18_0, e18_1, e18_4, e18_5, e18_6, e18_7, e18_28⟩
            have hb0 := beVal_nonneg (s.take i)
            have hb1 : i < m → beVal (s.take i) < 36028797018963968 := fun h => beVal_lt h (by omega) (by omega) (.inr (first_byte (by simpa using hx12) (by omega)))
            refine wp_seq_k fun K23 hK23 => ?_
            refine wp_seq_k fun K24 hK24 => ?_
            refine c_region ?_
            refine s_op (o_move (v := (.int .i64 (i : Int))) e18_7 ?_)
            refine s_op (o_move (v := (.int .i64 (m : Int))) e18_1 ?_)
            refine s_op (o_lss (a := (i : Int)) (b := (m : Int)) rfl rfl ?_)
            refine s_nil ?_
            refine t_norm (hK24 _ _ ?_)
            refine c_cond rfl (fun h25 => ?_) (fun h25 => ?_)
            · -- (i : Int) < (m : Int)
              refine wp_skip ?_
              refine t_norm (hK23 _ _ ?_)
              refine wp_seq_k fun K26 hK26 => ?_
              refine wp_block ?_
              refine c_region ?_
              refine s_op (o_move (v := (.int .i64 y)) e18_6 ?_)
              refine s_op (o_mul (a := 256) (b := y) rfl rfl (w64 (by omega) (by omega)) ?_)
              refine s_op (o_move (v := (S s)) e18_0 ?_)
              refine s_op (o_move (v := (.int .i64 (i : Int))) e18_7 ?_)
              obtain ⟨c27, hx28⟩ : ∃ x, s[((i : Int)).toNat]? = some x := get_some (by omega)
              have c27_lt := c27.toNat_lt
              refine s_op (o_sidx Try.underlying9 rfl rfl (by omega) hx28 ?_)
              refine s_op (o_conv Try.underlying5 Try.underlying3 rfl (w_u8 _) ?_)
              refine s_op (o_add (a := 256 * y) (b := (c27.toNat : Int)) rfl rfl (w64 (by omega) (by omega)) ?_)
              refine s_op (o_assign (v := (.int .i64 ((256 * y) + (c27.toNat : Int)))) rfl ?_)
              refine s_nil ?_
              refine b_norm ?_
              refine t_norm (hK26 _ _ ?_)
              refine c_region ?_
              refine s_op (o_move (v := (.int .i64 (i : Int))) e18_7 ?_)
              refine s_op (o_add (a := (i : Int)) (b := 1) rfl rfl (w64 (by omega) (by omega)) ?_)
              refine s_op (o_assign (v := (.int .i64 ((i : Int) + 1))) rfl ?_)
              refine s_nil ?_
              refine t_norm ⟨m - (i + 1), _, rfl, ?_, ?_⟩
              · omega
              · exact ⟨(i + 1), ((256 * y) + (c27.toNat : Int)), rfl, hH21, (by omega), (by rw [take_succ_of (by simpa using hx28), beVal_snoc, ← hy]; omega), e18_0, e18_1, e18_4, e18_5, rfl, rfl, e18_28⟩
            · -- not: (i : Int) < (m : Int)
              refine wp_exit ?_
              refine t_exit (t_exit (x_in (?_)))
              refine t_norm (hK16 _ _ ?_)
              refine wp_seq_k fun K29 hK29 => ?_
              refine c_region ?_
              refine s_op (o_move (v := (.int .i64 y)) e18_6 ?_)
              refine s_op (o_assign (v := (.int .i64 y)) rfl ?_)
              refine s_op (o_assign (v := (.bool true)) rfl ?_)
              refine s_nil ?_
              refine t_norm (hK29 _ _ ?_)
              refine wp_ret ?_
              refine c_ret2 Try.results30 (v := (.int .i64 y)) rfl (x := (.bool true)) rfl ?_
              have e : i = m := by omega
              rw [e] at hy
              exact ⟨by rw [takeS_yes (by omega) (by omega) (by omega) (.inr (first_byte (by simpa using hx12) (by omega))), hy], hH21⟩
        · -- not: (m : Int) = 8
          refine s_off (b' := false) 23 rfl (congrArg Value.bool (decide_eq_false h10)) rfl ?_
          refine s_off (b' := false) 23 rfl (congrArg Value.bool (decide_eq_false h10)) rfl ?_
          refine s_off (b' := false) 23 rfl (congrArg Value.bool (decide_eq_false h10)) rfl ?_
          refine s_on 20 rfl (congrArg Value.bool (decide_eq_false h8)) (o_pick_f (u := (.bool false)) ((rfl : _ = _).trans (congrArg Value.bool (decide_eq_false h10))) rfl ?_)
          refine s_op (o_pick_f (u := (.bool false)) ((rfl : _ = _).trans (congrArg Value.bool (decide_eq_false h8))) rfl ?_)
          refine s_nil ?_
          refine t_norm (hK3 _ _ ?_)
          refine c_false rfl rfl ?_
          refine wp_skip ?_
          refine t_norm (hK2 _ _ ?_)
          refine wp_seq_k fun K30 hK30 => ?_
          refine c_region ?_
          refine s_op (o_assign (v := (.int .i64 0)) rfl ?_)
          refine s_nil ?_
          refine t_norm (hK30 _ _ ?_)
          refine wp_seq_k fun K31 hK31 => ?_
          refine wp_seq_k fun K32 hK32 => ?_
          refine c_region ?_
          refine s_op (o_assign (v := (.int .i64 0)) rfl ?_)
          refine s_nil ?_
          refine t_norm (hK32 _ _ ?_)
          refine wp_block ?_
          let I34 : Nat → (Nat → Value) → World → Prop := fun n__ r__ w__ => ∃ (i : Nat) (y : Int), n__ = m - i ∧ Has E w__ [R] ∧ (i ≤ m) ∧ (y = beVal (s.take i)) ∧ r__ 0 = (S s) ∧ r__ 1 = (.int .i64 (m : Int)) ∧ r__ 4 = (.int .i64 0) ∧ r__ 5 = (.bool false) ∧ r__ 6 = (.int .i64 y) ∧ r__ 7 = (.int .i64 (i : Int)) ∧ r__ 28 = (.bool false)
          refine c_loop I34 _ ⟨0, 0, rfl, hH, Nat.zero_le _, rfl, rfl, rfl, rfl, rfl, rfl, rfl, rfl⟩ ?_
          rintro n_ r37 w35 ⟨i, y, rfl, hH36, hi, hy, e33_0, e33_1, e33_4, e33_5, e33_6, e33_7, e33_28⟩
          have hb0 := beVal_nonneg (s.take i)
          have hb1 : i < m → beVal (s.take i) < 36028797018963968 := fun h => beVal_lt h (by omega) (by omega) (.inl (by omega))
          refine wp_seq_k fun K38 hK38 => ?_
          refine wp_seq_k fun K39 hK39 => ?_
          refine c_region ?_
          refine s_op (o_move (v := (.int .i64 (i : Int))) e33_7 ?_)
          refine s_op (o_move (v := (.int .i64 (m : Int))) e33_1 ?_)
          refine s_op (o_lss (a := (i : Int)) (b := (m : Int)) rfl rfl ?_)
          refine s_nil ?_
          refine t_norm (hK39 _ _ ?_)
          refine c_cond rfl (fun h40 => ?_) (fun h40 => ?_)
          · -- (i : Int) < (m : Int)
            refine wp_skip ?_
            refine t_norm (hK38 _ _ ?_)
            refine wp_seq_k fun K41 hK41 => ?_
            refine wp_block ?_
            refine c_region ?_
            refine s_op (o_move (v := (.int .i64 y)) e33_6 ?_)
            refine s_op (o_mul (a := 256) (b := y) rfl rfl (w64 (by omega) (by omega)) ?_)
            refine s_op (o_move (v := (S s)) e33_0 ?_)
            refine s_op (o_move (v := (.int .i64 (i : Int))) e33_7 ?_)
            obtain ⟨c42, hx43⟩ : ∃ x, s[((i : Int)).toNat]? = some x := get_some (by omega)
            have c42_lt := c42.toNat_lt
            refine s_op (o_sidx Try.underlying9 rfl rfl (by omega) hx43 ?_)
            refine s_op (o_conv Try.underlying5 Try.underlying3 rfl (w_u8 _) ?_)
            refine s_op (o_add (a := 256 * y) (b := (c42.toNat : Int)) rfl rfl (w64 (by omega) (by omega)) ?_)
            refine s_op (o_assign (v := (.int .i64 ((256 * y) + (c42.toNat : Int)))) rfl ?_)
            refine s_nil ?_
            refine b_norm ?_
            refine t_norm (hK41 _ _ ?_)
            refine c_region ?_
            refine s_op (o_move (v := (.int .i64 (i : Int))) e33_7 ?_)
            refine s_op (o_add (a := (i : Int)) (b := 1) rfl rfl (w64 (by omega) (by omega)) ?_)
            refine s_op (o_assign (v := (.int .i64 ((i : Int) + 1))) rfl ?_)
            refine s_nil ?_
            refine t_norm ⟨m - (i + 1), _, rfl, ?_, ?_⟩
            · omega
            · exact ⟨(i + 1), ((256 * y) + (c42.toNat : Int)), rfl, hH36, (by omega), (by rw [take_succ_of (by simpa using hx43), beVal_snoc, ← hy]; omega), e33_0, e33_1, e33_4, e33_5, rfl, rfl, e33_28⟩
          · -- not: (i : Int) < (m : Int)
            refine wp_exit ?_
            refine t_exit (t_exit (x_in (?_)))
            refine t_norm (hK31 _ _ ?_)
            refine wp_seq_k fun K44 hK44 => ?_
            refine c_region ?_
            refine s_op (o_move (v := (.int .i64 y)) e33_6 ?_)
            refine s_op (o_assign (v := (.int .i64 y)) rfl ?_)
            refine s_op (o_assign (v := (.bool true)) rfl ?_)
            refine s_nil ?_
            refine t_norm (hK44 _ _ ?_)
            refine wp_ret ?_
            refine c_ret2 Try.results30 (v := (.int .i64 y)) rfl (x := (.bool true)) rfl ?_
            have e : i = m := by omega
            rw [e] at hy
            exact ⟨by rw [takeS_yes (by omega) (by omega) (by omega) (.inl (by omega)), hy], hH36⟩
set_option maxHeartbeats 4000000 in
theorem refTakeN_c {E w : World} {R : List Hp} (hH : Has E w [R]) (z : Int) (hz : z < 0) (s : List UInt8) :
    Calls Try.prog 30 #[(S s), (.int .i64 z)] w fun e w' => e = .returned (.tuple #[.int .i64 (takeS s z.toNat).1, .bool (takeS s z.toNat).2.2]) ∧ Has E w' [R] := by
  refine c_enter (args := [(S s), (.int .i64 z)]) Try.func30 rfl Try.ntmps30 (by simp) ?_
  refine wp_seq_k fun K1 hK1 => ?_
  refine c_region ?_
  refine s_op (o_assign (v := (.int .i64 0)) rfl ?_)
  refine s_op (o_assign (v := (.bool false)) rfl ?_)
  refine s_nil ?_
  refine t_norm (hK1 _ _ ?_)
  refine wp_seq_k fun K2 hK2 => ?_
  refine wp_seq_k fun K3 hK3 => ?_
  refine c_region ?_
  refine s_op (o_move (v := (.int .i64 z)) rfl ?_)
  refine s_op (o_lss (a := z) (b := 1) rfl rfl ?_)
  refine s_op (o_move (v := (.bool (decide (z < 1)))) rfl ?_)
  by_cases h4 : z < 1
  · -- z < 1
    refine s_off (b' := true) 10 rfl (congrArg Value.bool (decide_eq_true h4)) rfl ?_
    refine s_off (b' := true) 10 rfl (congrArg Value.bool (decide_eq_true h4)) rfl ?_
    refine s_op (o_pick_t (u := (.bool true)) ((rfl : _ = _).trans (congrArg Value.bool (decide_eq_true h4))) rfl ?_)
    refine s_op (o_move (v := (.bool true)) rfl ?_)
    refine s_off (b' := true) 14 rfl rfl rfl ?_
    refine s_off (b' := true) 14 rfl rfl rfl ?_
    refine s_off (b' := true) 14 rfl rfl rfl ?_
    refine s_off (b' := true) 14 rfl rfl rfl ?_
    refine s_op (o_pick_t (u := (.bool true)) rfl rfl ?_)
    refine s_op (o_move (v := (.bool true)) rfl ?_)
    refine s_off (b' := true) 20 rfl rfl rfl ?_
    refine s_off (b' := true) 20 rfl rfl rfl ?_
    refine s_off (b' := true) 20 rfl rfl rfl ?_
    refine s_offu 23 rfl rfl ?_
    refine s_offu 23 rfl rfl ?_
    refine s_offu 23 rfl rfl ?_
    refine s_off (b' := true) 20 rfl rfl rfl ?_
    refine s_op (o_pick_t (u := (.bool true)) rfl rfl ?_)
    refine s_nil ?_
    refine t_norm (hK3 _ _ ?_)
    refine c_true rfl rfl ?_
    refine wp_seq_k fun K5 hK5 => ?_
    refine c_region ?_
    refine s_op (o_assign (v := (.int .i64 0)) rfl ?_)
    refine s_op (o_assign (v := (.bool false)) rfl ?_)
    refine s_nil ?_
    refine t_norm (hK5 _ _ ?_)
    refine wp_ret ?_
    refine t_ret (c_ret2 Try.results30 (v := (.int .i64 0)) rfl (x := (.bool false)) rfl ?_)
    exact ⟨by rw [takeS_no (.inl (by omega))], hH⟩
  · -- not: z < 1
    exfalso; omega
set_option maxHeartbeats 4000000 in
theorem takeN_c {E w : World} {R : List Hp} (hH : Has E w [R]) (z : Int) (hz : z < 0) (s : List UInt8) :
    Calls Try.prog 29 #[(S s), (.int .i64 z)] w fun e w' => e = .returned (.tuple #[.int .i64 (takeS s z.toNat).1, S (takeS s z.toNat).2.1, .bool (takeS s z.toNat).2.2]) ∧ Has E w' [R] := by
  refine c_enter (args := [(S s), (.int .i64 z)]) Try.func29 rfl Try.ntmps29 (by simp) ?_
  refine wp_seq_k fun K1 hK1 => ?_
  refine c_region ?_
  refine s_op (o_assign (v := (.int .i64 0)) rfl ?_)
  refine s_op (o_assign (v := (S ([] : List UInt8))) rfl ?_)
  refine s_op (o_assign (v := (.bool false)) rfl ?_)
  refine s_nil ?_
  refine t_norm (hK1 _ _ ?_)
  refine wp_seq_k fun K2 hK2 => ?_
  refine wp_seq_k fun K3 hK3 => ?_
  refine c_region ?_
  refine s_op (o_move (v := (.int .i64 z)) rfl ?_)
  refine s_op (o_lss (a := z) (b := 1) rfl rfl ?_)
  refine s_op (o_move (v := (.bool (decide (z < 1)))) rfl ?_)
  by_cases h4 : z < 1
  · -- z < 1
    refine s_off (b' := true) 11 rfl (congrArg Value.bool (decide_eq_true h4)) rfl ?_
    refine s_off (b' := true) 11 rfl (congrArg Value.bool (decide_eq_true h4)) rfl ?_
    refine s_op (o_pick_t (u := (.bool true)) ((rfl : _ = _).trans (congrArg Value.bool (decide_eq_true h4))) rfl ?_)
    refine s_op (o_move (v := (.bool true)) rfl ?_)
    refine s_off (b' := true) 15 rfl rfl rfl ?_
    refine s_off (b' := true) 15 rfl rfl rfl ?_
    refine s_off (b' := true) 15 rfl rfl rfl ?_
    refine s_off (b' := true) 15 rfl rfl rfl ?_
    refine s_op (o_pick_t (u := (.bool true)) rfl rfl ?_)
    refine s_op (o_move (v := (.bool true)) rfl ?_)
    refine s_off (b' := true) 21 rfl rfl rfl ?_
    refine s_off (b' := true) 21 rfl rfl rfl ?_
    refine s_off (b' := true) 21 rfl rfl rfl ?_
    refine s_offu 24 rfl rfl ?_
    refine s_offu 24 rfl rfl ?_
    refine s_offu 24 rfl rfl ?_
    refine s_off (b' := true) 21 rfl rfl rfl ?_
    refine s_op (o_pick_t (u := (.bool true)) rfl rfl ?_)
    refine s_nil ?_
    refine t_norm (hK3 _ _ ?_)
    refine c_true rfl rfl ?_
    refine wp_seq_k fun K5 hK5 => ?_
    refine c_region ?_
    refine s_op (o_move (v := (S s)) rfl ?_)
    refine s_op (o_assign (v := (.int .i64 0)) rfl ?_)
    refine s_op (o_assign (v := (S s)) rfl ?_)
    refine s_op (o_assign (v := (.bool false)) rfl ?_)
    refine s_nil ?_
    refine t_norm (hK5 _ _ ?_)
    refine wp_ret ?_
    refine t_ret (c_ret3 Try.results29 (v := (.int .i64 0)) rfl (x := (S s)) rfl (y := (.bool false)) rfl ?_)
    exact ⟨by rw [takeS_no (.inl (by omega))], hH⟩
  · -- not: z < 1
    exfalso; omega
set_option maxHeartbeats 4000000 in
theorem putN_c {E w : World} {R : List Hp} (hH : Has E w [R]) (z : Int) (hz : z < 0) {v : Value} {l : List Int} (hv : Ints R v l) :
    Calls Try.prog 26 #[(.int .i64 z), v] w fun e w' => e = .returned (S (putS z.toNat l)) ∧ Has E w' [R] := by
  refine c_enter (args := [(.int .i64 z), v]) Try.func26 rfl Try.ntmps26 (by simp) ?_
  refine wp_seq_k fun K1 hK1 => ?_
  refine c_region ?_
  refine s_op (o_assign (v := (S ([] : List UInt8))) rfl ?_)
  refine s_nil ?_
  refine t_norm (hK1 _ _ ?_)
  refine wp_seq_k fun K2 hK2 => ?_
  refine wp_seq_k fun K3 hK3 => ?_
  refine c_region ?_
  refine s_op (o_move (v := (.int .i64 z)) rfl ?_)
  refine s_op (o_lss (a := z) (b := 1) rfl rfl ?_)
  refine s_op (o_move (v := (.bool (decide (z < 1)))) rfl ?_)
  by_cases h4 : z < 1
  · -- z < 1
    refine s_off (b' := true) 11 rfl (congrArg Value.bool (decide_eq_true h4)) rfl ?_
    refine s_off (b' := true) 11 rfl (congrArg Value.bool (decide_eq_true h4)) rfl ?_
    refine s_op (o_pick_t (u := (.bool true)) ((rfl : _ = _).trans (congrArg Value.bool (decide_eq_true h4))) rfl ?_)
    refine s_nil ?_
    refine t_norm (hK3 _ _ ?_)
    refine c_true rfl rfl ?_
    refine wp_seq_k fun K5 hK5 => ?_
    refine c_region ?_
    refine s_op (o_assign (v := (S ([] : List UInt8))) rfl ?_)
    refine s_nil ?_
    refine t_norm (hK5 _ _ ?_)
    refine wp_ret ?_
    refine t_ret (c_ret1 Try.results26 (v := (S ([] : List UInt8))) rfl ?_)
    exact ⟨by rw [put_none (.inl (by omega))], hH⟩
  · -- not: z < 1
    exfalso; omega
end Go.Q
