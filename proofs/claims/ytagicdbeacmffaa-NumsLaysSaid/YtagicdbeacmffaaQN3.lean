/-
  Parts of a walk: what functions of the program compute, each told by a theorem.
-/
import Derived.Test.YtagicdbeacmffaaQN1
set_option linter.unusedVariables false
set_option linter.unusedSimpArgs false
namespace Go.Q
open Go.Proofs
set_option linter.unusedVariables false
set_option maxRecDepth 100000
attribute [local irreducible] wpList OK Code.wp
set_option maxHeartbeats 4000000 in
theorem take_c {E w : World} {R : List Hp} (hH : Has E w [R]) (m : Nat) (s : List UInt8) (hsl : s.length ≤ 9223372036854775807) :
    Calls Try.prog 29 #[(S s), (.int .i64 (m : Int))] w fun e w' => e = .returned (.tuple #[.int .i64 (takeS s m).1, S (takeS s m).2.1, .bool (takeS s m).2.2]) ∧ Has E w' [R] := by
  refine c_enter (args := [(S s), (.int .i64 (m : Int))]) Try.func29 rfl Try.ntmps29 (by simp) ?_
  refine wp_seq_k fun K1 hK1 => ?_
  refine c_region ?_
  refine s_op (o_assign (v := (.int .i64 0)) rfl ?_)
  refine s_op (o_assign (v := (S ([] : List UInt8))) rfl ?_)
  refine s_op (o_assign (v := (.bool false)) rfl ?_)
  refine s_nil ?_
  refine t_norm (hK1 _ _ ?_)
  refine wp_seq_k fun K2 hK2 => ?_
  refine wp_seq_k fun K3 hK3 => ?_
  refine c_region ?_
  refine s_op (o_move (v := (.int .i64 (m : Int))) rfl ?_)
  refine s_op (o_lss (a := (m : Int)) (b := 1) rfl rfl ?_)
  refine s_op (o_move (v := (.bool (decide ((m : Int) < 1)))) rfl ?_)
  by_cases h4 : (m : Int) < 1
  · -- (m : Int) < 1
    refine s_off (b' := true) 11 rfl (congrArg Value.bool (decide_eq_true h4)) rfl ?_
    refine s_off (b' := true) 11 rfl (congrArg Value.bool (decide_eq_true h4)) rfl ?_
    refine s_op (o_pick_t (u := (.bool true)) ((rfl : _ = _).trans (congrArg Value.bool (decide_eq_true h4))) rfl ?_)
    refine s_op (o_move (v := (.bool true)) rfl ?_)
    refine s_off (b' := true) 15 rfl rfl rfl ?_
    refine s_off (b' := true) 15 rfl rfl rfl ?_
    refine s_off (b' := true) 15 rfl rfl rfl ?_
    refine s_off (b' := true) 15 rfl rfl rfl ?_
    refine s_op (o_pick_t (u := (.bool true)) rfl rfl ?_)
    refine s_op (o_move (v := (.bool true)) rfl ?_)
    refine s_off (b' := true) 21 rfl rfl rfl ?_
    refine s_off (b' := true) 21 rfl rfl rfl ?_
    refine s_off (b' := true) 21 rfl rfl rfl ?_
    refine s_offu 24 rfl rfl ?_
    refine s_offu 24 rfl rfl ?_
    refine s_offu 24 rfl rfl ?_
    refine s_off (b' := true) 21 rfl rfl rfl ?_
    refine s_op (o_pick_t (u := (.bool true)) rfl rfl ?_)
    refine s_nil ?_
    refine t_norm (hK3 _ _ ?_)
    refine c_true rfl rfl ?_
    refine wp_seq_k fun K5 hK5 => ?_
    refine c_region ?_
    refine s_op (o_move (v := (S s)) rfl ?_)
    refine s_op (o_assign (v := (.int .i64 0)) rfl ?_)
    refine s_op (o_assign (v := (S s)) rfl ?_)
    refine s_op (o_assign (v := (.bool false)) rfl ?_)
    refine s_nil ?_
    refine t_norm (hK5 _ _ ?_)
    refine wp_ret ?_
    refine t_ret (c_ret3 Try.results29 (v := (.int .i64 0)) rfl (x := (S s)) rfl (y := (.bool false)) rfl ?_)
    exact ⟨by rw [takeS_no (by first | exact .inl (by omega) | exact .inr (.inl (by omega)) | exact .inr (.inr ⟨by omega, 0, by simpa using rfl, by omega⟩))], hH⟩
  · -- not: (m : Int) < 1
    refine s_on 11 rfl (congrArg Value.bool (decide_eq_false h4)) (o_move (v := (.int .i64 (m : Int))) rfl ?_)
    refine s_on 11 rfl (congrArg Value.bool (decide_eq_false h4)) (o_gtr (a := (m : Int)) (b := 8) rfl rfl ?_)
    refine s_op (o_pick_f (u := (.bool (decide (8 < (m : Int))))) ((rfl : _ = _).trans (congrArg Value.bool (decide_eq_false h4))) rfl ?_)
    refine s_op (o_move (v := (.bool (decide (8 < (m : Int))))) rfl ?_)
    by_cases h6 : 8 < (m : Int)
    · -- 8 < (m : Int)
      refine s_off (b' := true) 15 rfl (congrArg Value.bool (decide_eq_true h6)) rfl ?_
      refine s_off (b' := true) 15 rfl (congrArg Value.bool (decide_eq_true h6)) rfl ?_
      refine s_off (b' := true) 15 rfl (congrArg Value.bool (decide_eq_true h6)) rfl ?_
      refine s_off (b' := true) 15 rfl (congrArg Value.bool (decide_eq_true h6)) rfl ?_
      refine s_op (o_pick_t (u := (.bool true)) ((rfl : _ = _).trans (congrArg Value.bool (decide_eq_true h6))) rfl ?_)
      refine s_op (o_move (v := (.bool true)) rfl ?_)
      refine s_off (b' := true) 21 rfl rfl rfl ?_
      refine s_off (b' := true) 21 rfl rfl rfl ?_
      refine s_off (b' := true) 21 rfl rfl rfl ?_
      refine s_offu 24 rfl rfl ?_
      refine s_offu 24 rfl rfl ?_
      refine s_offu 24 rfl rfl ?_
      refine s_off (b' := true) 21 rfl rfl rfl ?_
      refine s_op (o_pick_t (u := (.bool true)) rfl rfl ?_)
      refine s_nil ?_
      refine t_norm (hK3 _ _ ?_)
      refine c_true rfl rfl ?_
      refine wp_seq_k fun K7 hK7 => ?_
      refine c_region ?_
      refine s_op (o_move (v := (S s)) rfl ?_)
      refine s_op (o_assign (v := (.int .i64 0)) rfl ?_)
      refine s_op (o_assign (v := (S s)) rfl ?_)
      refine s_op (o_assign (v := (.bool false)) rfl ?_)
      refine s_nil ?_
      refine t_norm (hK7 _ _ ?_)
      refine wp_ret ?_
      refine t_ret (c_ret3 Try.results29 (v := (.int .i64 0)) rfl (x := (S s)) rfl (y := (.bool false)) rfl ?_)
      exact ⟨by rw [takeS_no (by first | exact .inl (by omega) | exact .inr (.inl (by omega)) | exact .inr (.inr ⟨by omega, 0, by simpa using rfl, by omega⟩))], hH⟩
    · -- not: 8 < (m : Int)
      refine s_on 15 rfl (congrArg Value.bool (decide_eq_false h6)) (o_move (v := (S s)) rfl ?_)
      refine s_on 15 rfl (congrArg Value.bool (decide_eq_false h6)) (o_slen Try.underlying9 rfl ?_)
      refine s_on 15 rfl (congrArg Value.bool (decide_eq_false h6)) (o_move (v := (.int .i64 (m : Int))) rfl ?_)
      refine s_on 15 rfl (congrArg Value.bool (decide_eq_false h6)) (o_lss (a := (s.length : Int)) (b := (m : Int)) rfl rfl ?_)
      refine s_op (o_pick_f (u := (.bool (decide ((s.length : Int) < (m : Int))))) ((rfl : _ = _).trans (congrArg Value.bool (decide_eq_false h6))) rfl ?_)
      refine s_op (o_move (v := (.bool (decide ((s.length : Int) < (m : Int))))) rfl ?_)
      by_cases h8 : (s.length : Int) < (m : Int)
      · -- (s.length : Int) < (m : Int)
        refine s_off (b' := true) 21 rfl (congrArg Value.bool (decide_eq_true h8)) rfl ?_
        refine s_off (b' := true) 21 rfl (congrArg Value.bool (decide_eq_true h8)) rfl ?_
        refine s_off (b' := true) 21 rfl (congrArg Value.bool (decide_eq_true h8)) rfl ?_
        refine s_offu 24 rfl rfl ?_
        refine s_offu 24 rfl rfl ?_
        refine s_offu 24 rfl rfl ?_
        refine s_off (b' := true) 21 rfl (congrArg Value.bool (decide_eq_true h8)) rfl ?_
        refine s_op (o_pick_t (u := (.bool true)) ((rfl : _ = _).trans (congrArg Value.bool (decide_eq_true h8))) rfl ?_)
        refine s_nil ?_
        refine t_norm (hK3 _ _ ?_)
        refine c_true rfl rfl ?_
        refine wp_seq_k fun K9 hK9 => ?_
        refine c_region ?_
        refine s_op (o_move (v := (S s)) rfl ?_)
        refine s_op (o_assign (v := (.int .i64 0)) rfl ?_)
        refine s_op (o_assign (v := (S s)) rfl ?_)
        refine s_op (o_assign (v := (.bool false)) rfl ?_)
        refine s_nil ?_
        refine t_norm (hK9 _ _ ?_)
        refine wp_ret ?_
        refine t_ret (c_ret3 Try.results29 (v := (.int .i64 0)) rfl (x := (S s)) rfl (y := (.bool false)) rfl ?_)
        exact ⟨by rw [takeS_no (by first | exact .inl (by omega) | exact .inr (.inl (by omega)) | exact .inr (.inr ⟨by omega, 0, by simpa using rfl, by omega⟩))], hH⟩
      · -- not: (s.length : Int) < (m : Int)
        refine s_on 21 rfl (congrArg Value.bool (decide_eq_false h8)) (o_move (v := (.int .i64 (m : Int))) rfl ?_)
        refine s_on 21 rfl (congrArg Value.bool (decide_eq_false h8)) (o_eql (a := (m : Int)) (b := 8) rfl rfl ?_)
        refine s_on 21 rfl (congrArg Value.bool (decide_eq_false h8)) (o_move (v := (.bool (decide ((m : Int) = 8)))) rfl ?_)
        by_cases h10 : (m : Int) = 8
        · -- (m : Int) = 8
          refine s_on 24 rfl (congrArg Value.bool (decide_eq_true h10)) (o_move (v := (S s)) rfl ?_)
          obtain ⟨c11, hx12⟩ : ∃ x, s[((0 : Int)).toNat]? = some x := get_some (by omega)
          refine s_on 24 rfl (congrArg Value.bool (decide_eq_true h10)) (o_sidx Try.underlying9 rfl rfl (by omega) hx12 ?_)
          refine s_on 24 rfl (congrArg Value.bool (decide_eq_true h10)) (o_gtr (a := (c11.toNat : Int)) (b := 127) rfl rfl ?_)
          refine s_on 21 rfl (congrArg Value.bool (decide_eq_false h8)) (o_pick_t (u := (.bool (decide (127 < (c11.toNat : Int))))) ((rfl : _ = _).trans (congrArg Value.bool (decide_eq_true h10))) rfl ?_)
          refine s_op (o_pick_f (u := (.bool (decide (127 < (c11.toNat : Int))))) ((rfl : _ = _).trans (congrArg Value.bool (decide_eq_false h8))) rfl ?_)
          refine s_nil ?_
          refine t_norm (hK3 _ _ ?_)
          refine c_cond rfl (fun h13 => ?_) (fun h13 => ?_)
          · -- 127 < (c11.toNat : Int)
            refine wp_seq_k fun K14 hK14 => ?_
            refine c_region ?_
            refine s_op (o_move (v := (S s)) rfl ?_)
            refine s_op (o_assign (v := (.int .i64 0)) rfl ?_)
            refine s_op (o_assign (v := (S s)) rfl ?_)
            refine s_op (o_assign (v := (.bool false)) rfl ?_)
            refine s_nil ?_
            refine t_norm (hK14 _ _ ?_)
            refine wp_ret ?_
            refine t_ret (c_ret3 Try.results29 (v := (.int .i64 0)) rfl (x := (S s)) rfl (y := (.bool false)) rfl ?_)
            exact ⟨by rw [takeS_no (by first | exact .inl (by omega) | exact .inr (.inl (by omega)) | exact .inr (.inr ⟨by omega, c11, by simpa using hx12, by omega⟩))], hH⟩
          · -- not: 127 < (c11.toNat : Int)
            refine wp_skip ?_
            refine t_norm (hK2 _ _ ?_)
            refine wp_seq_k fun K15 hK15 => ?_
            refine c_region ?_
            refine s_op (o_assign (v := (.int .i64 0)) rfl ?_)
            refine s_nil ?_
            refine t_norm (hK15 _ _ ?_)
            refine wp_seq_k fun K16 hK16 => ?_
            refine wp_seq_k fun K17 hK17 => ?_
            refine c_region ?_
            refine s_op (o_move (v := (.int .i64 (m : Int))) rfl ?_)
            refine s_op (o_move (v := (.int .i64 0)) rfl ?_)
            refine s_nil ?_
            refine t_norm (hK17 _ _ ?_)
            refine wp_block ?_
            let I18 : Nat → (Nat → Value) → World → Prop := fun n r w => ∃ (i : Nat) (y : Int) (u1_8 u1_33 u1_34 u1_35 u1_36 u1_37 u1_38 u1_39 u1_40 u1_41 u1_42 : Value), n = m - i ∧ r = base [(S s), (.int .i64 (m : Int)), undef, undef, (.int .i64 0), (S ([] : List UInt8)), (.bool false), (.int .i64 y), u1_8, (.int .i64 (m : Int)), (.bool (decide ((m : Int) < 1))), (.bool (decide ((m : Int) < 1))), (.int .i64 (m : Int)), (.bool (decide (8 < (m : Int)))), (.bool (decide (8 < (m : Int)))), (.bool (decide (8 < (m : Int)))), (S s), (.int .i64 (s.length : Int)), (.int .i64 (m : Int)), (.bool (decide ((s.length : Int) < (m : Int)))), (.bool (decide ((s.length : Int) < (m : Int)))), (.bool (decide ((s.length : Int) < (m : Int)))), (.int .i64 (m : Int)), (.bool (decide ((m : Int) = 8))), (.bool (decide ((m : Int) = 8))), (S s), (bV c11), (.bool (decide (127 < (c11.toNat : Int)))), (.bool (decide (127 < (c11.toNat : Int)))), (.bool (decide (127 < (c11.toNat : Int)))), undef, (.int .i64 (m : Int)), (.int .i64 (i : Int)), u1_33, u1_34, u1_35, u1_36, u1_37, u1_38, u1_39, u1_40, u1_41, u1_42, undef, undef, undef, undef] ∧ Has E w [R] ∧ (i ≤ m) ∧ (y = beVal (s.take i))
            rw [show Go.Q.fr 47 _ = Go.Q.fr 47 (base [(S s), (.int .i64 (m : Int)), undef, undef, (.int .i64 0), (S ([] : List UInt8)), (.bool false), (.int .i64 0), undef, (.int .i64 (m : Int)), (.bool (decide ((m : Int) < 1))), (.bool (decide ((m : Int) < 1))), (.int .i64 (m : Int)), (.bool (decide (8 < (m : Int)))), (.bool (decide (8 < (m : Int)))), (.bool (decide (8 < (m : Int)))), (S s), (.int .i64 (s.length : Int)), (.int .i64 (m : Int)), (.bool (decide ((s.length : Int) < (m : Int)))), (.bool (decide ((s.length : Int) < (m : Int)))), (.bool (decide ((s.length : Int) < (m : Int)))), (.int .i64 (m : Int)), (.bool (decide ((m : Int) = 8))), (.bool (decide ((m : Int) = 8))), (S s), (bV c11), (.bool (decide (127 < (c11.toNat : Int)))), (.bool (decide (127 < (c11.toNat : Int)))), (.bool (decide (127 < (c11.toNat : Int)))), undef, (.int .i64 (m : Int)), (.int .i64 (0 : Int)), undef, undef, undef, undef, undef, undef, undef, undef, undef, undef, undef, undef, undef, undef]) from fr_lit (by rfl)]
            refine c_loop I18 _ ⟨0, 0, undef, undef, undef, undef, undef, undef, undef, undef, undef, undef, undef, rfl, rfl, hH, Nat.zero_le _, rfl⟩ ?_
            rintro n_ r_ w19 ⟨i, y, u1_8, u1_33, u1_34, u1_35, u1_36, u1_37, u1_38, u1_39, u1_40, u1_41, u1_42, rfl, rfl, hH20, hi, hy⟩
            have hb0 := beVal_nonneg (s.take i)
            have hb1 : i < m → beVal (s.take i) < 36028797018963968 := fun h => beVal_lt h (by omega) (by omega) (.inr (first_byte (by simpa using hx12) (by omega)))
            refine wp_seq_k fun K21 hK21 => ?_
            refine c_region ?_
            refine s_op (o_lss (a := (i : Int)) (b := (m : Int)) rfl rfl ?_)
            refine s_nil ?_
            refine t_norm (hK21 _ _ ?_)
            refine wp_seq_k fun K22 hK22 => ?_
            refine c_cond rfl (fun h23 => ?_) (fun h23 => ?_)
            · -- (i : Int) < (m : Int)
              refine wp_skip ?_
              refine t_norm (hK22 _ _ ?_)
              refine wp_seq_k fun K24 hK24 => ?_
              refine wp_block ?_
              refine wp_seq_k fun K25 hK25 => ?_
              refine c_region ?_
              refine s_op (o_move (v := (.int .i64 (i : Int))) rfl ?_)
              refine s_op (o_assign (v := (.int .i64 (i : Int))) rfl ?_)
              refine s_nil ?_
              refine t_norm (hK25 _ _ ?_)
              refine c_region ?_
              refine s_op (o_move (v := (.int .i64 y)) rfl ?_)
              refine s_op (o_shl (c := y * 256) rfl rfl (by omega) (shl_lit (by omega) (by omega) rfl) ?_)
              refine s_op (o_move (v := (S s)) rfl ?_)
              refine s_op (o_move (v := (.int .i64 (i : Int))) rfl ?_)
              obtain ⟨c26, hx27⟩ : ∃ x, s[((i : Int)).toNat]? = some x := get_some (by omega)
              refine s_op (o_sidx Try.underlying9 rfl rfl (by omega) hx27 ?_)
              refine s_op (o_conv Try.underlying5 Try.underlying3 rfl (w_u8 _) ?_)
              refine s_op (o_or (c := y * 256 + (c26.toNat : Int)) rfl rfl (or8 (by omega) (by omega) _) ?_)
              refine s_op (o_assign (v := (.int .i64 (y * 256 + (c26.toNat : Int)))) rfl ?_)
              refine s_nil ?_
              refine b_norm ?_
              refine t_norm (hK24 _ _ ?_)
              refine c_region ?_
              refine s_op (o_add (a := (i : Int)) (b := 1) rfl rfl (w64 (by omega) (by omega)) ?_)
              refine s_op (o_move (v := (.int .i64 ((i : Int) + 1))) rfl ?_)
              refine s_nil ?_
              refine t_norm ⟨m - (i + 1), base [(S s), (.int .i64 (m : Int)), undef, undef, (.int .i64 0), (S ([] : List UInt8)), (.bool false), (.int .i64 (y * 256 + (c26.toNat : Int))), (.int .i64 (i : Int)), (.int .i64 (m : Int)), (.bool (decide ((m : Int) < 1))), (.bool (decide ((m : Int) < 1))), (.int .i64 (m : Int)), (.bool (decide (8 < (m : Int)))), (.bool (decide (8 < (m : Int)))), (.bool (decide (8 < (m : Int)))), (S s), (.int .i64 (s.length : Int)), (.int .i64 (m : Int)), (.bool (decide ((s.length : Int) < (m : Int)))), (.bool (decide ((s.length : Int) < (m : Int)))), (.bool (decide ((s.length : Int) < (m : Int)))), (.int .i64 (m : Int)), (.bool (decide ((m : Int) = 8))), (.bool (decide ((m : Int) = 8))), (S s), (bV c11), (.bool (decide (127 < (c11.toNat : Int)))), (.bool (decide (127 < (c11.toNat : Int)))), (.bool (decide (127 < (c11.toNat : Int)))), undef, (.int .i64 (m : Int)), (.int .i64 ((i : Int) + 1)), (.bool (decide ((i : Int) < (m : Int)))), (.int .i64 (i : Int)), (.int .i64 y), (.int .i64 (y * 256)), (S s), (.int .i64 (i : Int)), (bV c26), (.int .i64 (c26.toNat : Int)), (.int .i64 (y * 256 + (c26.toNat : Int))), (.int .i64 ((i : Int) + 1)), undef, undef, undef, undef], fr_lit (by rfl), ?_, ?_⟩
              · omega
              · exact ⟨(i + 1), (y * 256 + (c26.toNat : Int)), _, _, _, _, _, _, _, _, _, _, _, rfl, rfl, hH20, (by omega), (by rw [take_succ_of (by simpa using hx27), beVal_snoc, ← hy])⟩
            · -- not: (i : Int) < (m : Int)
              refine wp_exit ?_
              refine t_exit (t_exit (x_in (?_)))
              refine t_norm (hK16 _ _ ?_)
              refine wp_seq_k fun K28 hK28 => ?_
              refine c_flow [R] (fun i_ => match i_ with | _ => []) (fun i_ v_ h_ => match i_ with | 0 => v_ = (.int .i64 y) ∧ h_ = [] | 1 => v_ = (S s) ∧ h_ = [] | 2 => v_ = (.int .i64 (m : Int)) ∧ h_ = [] | 3 => v_ = (S (s.drop ((m : Int)).toNat)) ∧ h_ = [] | 4 => v_ = (.int .i64 y) ∧ h_ = [] | 5 => v_ = (S (s.drop ((m : Int)).toNat)) ∧ h_ = [] | 6 => v_ = (.bool true) ∧ h_ = [] | _ => True) mixed (by kernel_rfl) (flow_has (cs := []) hH20 rfl) ?_ ?_
              · intro i_ o_ ho_ r' w' G hs_ ht
                match i_, ho_ with
                | 0, ho_ =>
                  obtain rfl := Option.some.inj ho_
                  have e7 : r' 7 = (.int .i64 y) := ht.was 7 (by kernel_rfl)
                  have hG := ht.has.drop
                  refine o_move (v := (.int .i64 y)) e7 ?_
                  exact ⟨_, ⟨rfl, rfl⟩, hG⟩
                | 1, ho_ =>
                  obtain rfl := Option.some.inj ho_
                  have e0 : r' 0 = (S s) := ht.was 0 (by kernel_rfl)
                  have hG := ht.has.drop
                  refine o_move (v := (S s)) e0 ?_
                  exact ⟨_, ⟨rfl, rfl⟩, hG⟩
                | 2, ho_ =>
                  obtain rfl := Option.some.inj ho_
                  have e1 : r' 1 = (.int .i64 (m : Int)) := ht.was 1 (by kernel_rfl)
                  have hG := ht.has.drop
                  refine o_move (v := (.int .i64 (m : Int))) e1 ?_
                  exact ⟨_, ⟨rfl, rfl⟩, hG⟩
                | 3, ho_ =>
                  obtain rfl := Option.some.inj ho_
                  obtain ⟨e44, eh1⟩ := (ht.done 1 _ rfl rfl).1
                  obtain ⟨e45, eh2⟩ := (ht.done 2 _ rfl rfl).1
                  have hG := ht.has.drop
                  refine o_ssl_l Try.underlying9 e44 e45 (by omega) (by omega) ?_
                  exact ⟨_, ⟨rfl, rfl⟩, hG⟩
                | 4, ho_ =>
                  obtain rfl := Option.some.inj ho_
                  obtain ⟨e43, eh0⟩ := (ht.done 0 _ rfl rfl).1
                  have hG := ht.has.drop
                  refine o_assign (v := (.int .i64 y)) e43 ?_
                  exact ⟨_, ⟨rfl, rfl⟩, hG⟩
                | 5, ho_ =>
                  obtain rfl := Option.some.inj ho_
                  obtain ⟨e46, eh3⟩ := (ht.done 3 _ rfl rfl).1
                  have hG := ht.has.drop
                  refine o_assign (v := (S (s.drop ((m : Int)).toNat))) e46 ?_
                  exact ⟨_, ⟨rfl, rfl⟩, hG⟩
                | 6, ho_ =>
                  obtain rfl := Option.some.inj ho_
                  have hG := ht.has.drop
                  refine o_assign (v := (.bool true)) rfl ?_
                  exact ⟨_, ⟨rfl, rfl⟩, hG⟩
                | i_ + 7, ho_ => exact absurd ho_ (by simp)
              · intro vs29 hs30 w31 hT32 hH33
                obtain ⟨e0_, eh0_⟩ := hT32 0 _ rfl
                obtain ⟨e1_, eh1_⟩ := hT32 1 _ rfl
                obtain ⟨e2_, eh2_⟩ := hT32 2 _ rfl
                obtain ⟨e3_, eh3_⟩ := hT32 3 _ rfl
                obtain ⟨e4_, eh4_⟩ := hT32 4 _ rfl
                obtain ⟨e5_, eh5_⟩ := hT32 5 _ rfl
                obtain ⟨e6_, eh6_⟩ := hT32 6 _ rfl
                have hH34 : Has E w31 ([R] ++ []) := flow_back (cs := []) hH33 (by show (hs30 0 ++ (hs30 1 ++ (hs30 2 ++ (hs30 3 ++ (hs30 4 ++ (hs30 5 ++ (hs30 6 ++ []))))))) = _; rw [eh0_, eh1_, eh2_, eh3_, eh4_, eh5_, eh6_]; rfl)
                rw [show Go.Q.fr 47 (puts vs29 _ 0 _) = Go.Q.fr 47 (base [(S s), (.int .i64 (m : Int)), undef, undef, (.int .i64 y), (S (s.drop ((m : Int)).toNat)), (.bool true), (.int .i64 y), u1_8, (.int .i64 (m : Int)), (.bool (decide ((m : Int) < 1))), (.bool (decide ((m : Int) < 1))), (.int .i64 (m : Int)), (.bool (decide (8 < (m : Int)))), (.bool (decide (8 < (m : Int)))), (.bool (decide (8 < (m : Int)))), (S s), (.int .i64 (s.length : Int)), (.int .i64 (m : Int)), (.bool (decide ((s.length : Int) < (m : Int)))), (.bool (decide ((s.length : Int) < (m : Int)))), (.bool (decide ((s.length : Int) < (m : Int)))), (.int .i64 (m : Int)), (.bool (decide ((m : Int) = 8))), (.bool (decide ((m : Int) = 8))), (S s), (bV c11), (.bool (decide (127 < (c11.toNat : Int)))), (.bool (decide (127 < (c11.toNat : Int)))), (.bool (decide (127 < (c11.toNat : Int)))), undef, (.int .i64 (m : Int)), (.int .i64 (i : Int)), (.bool (decide ((i : Int) < (m : Int)))), u1_34, u1_35, u1_36, u1_37, u1_38, u1_39, u1_40, u1_41, u1_42, (.int .i64 y), (S s), (.int .i64 (m : Int)), (S (s.drop ((m : Int)).toNat))]) from fr_lit (by show [(S s), (.int .i64 (m : Int)), undef, undef, vs29 4, vs29 5, vs29 6, (.int .i64 y), u1_8, (.int .i64 (m : Int)), (.bool (decide ((m : Int) < 1))), (.bool (decide ((m : Int) < 1))), (.int .i64 (m : Int)), (.bool (decide (8 < (m : Int)))), (.bool (decide (8 < (m : Int)))), (.bool (decide (8 < (m : Int)))), (S s), (.int .i64 (s.length : Int)), (.int .i64 (m : Int)), (.bool (decide ((s.length : Int) < (m : Int)))), (.bool (decide ((s.length : Int) < (m : Int)))), (.bool (decide ((s.length : Int) < (m : Int)))), (.int .i64 (m : Int)), (.bool (decide ((m : Int) = 8))), (.bool (decide ((m : Int) = 8))), (S s), (bV c11), (.bool (decide (127 < (c11.toNat : Int)))), (.bool (decide (127 < (c11.toNat : Int)))), (.bool (decide (127 < (c11.toNat : Int)))), undef, (.int .i64 (m : Int)), (.int .i64 (i : Int)), (.bool (decide ((i : Int) < (m : Int)))), u1_34, u1_35, u1_36, u1_37, u1_38, u1_39, u1_40, u1_41, u1_42, vs29 0, vs29 1, vs29 2, vs29 3] = _; rw [e0_, e1_, e2_, e3_, e4_, e5_, e6_])]
                refine t_norm (hK28 _ _ ?_)
                refine wp_ret ?_
                refine c_ret3 Try.results29 (v := (.int .i64 y)) rfl (x := (S (s.drop ((m : Int)).toNat))) rfl (y := (.bool true)) rfl ?_
                have e : i = m := by omega
                rw [e] at hy
                exact ⟨by rw [takeS_yes (by omega) (by omega) (by omega) (.inr (first_byte (by simpa using hx12) (by omega))), hy]; rfl, hH34⟩
        · -- not: (m : Int) = 8
          refine s_off (b' := false) 24 rfl (congrArg Value.bool (decide_eq_false h10)) rfl ?_
          refine s_off (b' := false) 24 rfl (congrArg Value.bool (decide_eq_false h10)) rfl ?_
          refine s_off (b' := false) 24 rfl (congrArg Value.bool (decide_eq_false h10)) rfl ?_
          refine s_on 21 rfl (congrArg Value.bool (decide_eq_false h8)) (o_pick_f (u := (.bool false)) ((rfl : _ = _).trans (congrArg Value.bool (decide_eq_false h10))) rfl ?_)
          refine s_op (o_pick_f (u := (.bool false)) ((rfl : _ = _).trans (congrArg Value.bool (decide_eq_false h8))) rfl ?_)
          refine s_nil ?_
          refine t_norm (hK3 _ _ ?_)
          refine c_false rfl rfl ?_
          refine wp_skip ?_
          refine t_norm (hK2 _ _ ?_)
          refine wp_seq_k fun K35 hK35 => ?_
          refine c_region ?_
          refine s_op (o_assign (v := (.int .i64 0)) rfl ?_)
          refine s_nil ?_
          refine t_norm (hK35 _ _ ?_)
          refine wp_seq_k fun K36 hK36 => ?_
          refine wp_seq_k fun K37 hK37 => ?_
          refine c_region ?_
          refine s_op (o_move (v := (.int .i64 (m : Int))) rfl ?_)
          refine s_op (o_move (v := (.int .i64 0)) rfl ?_)
          refine s_nil ?_
          refine t_norm (hK37 _ _ ?_)
          refine wp_block ?_
          let I38 : Nat → (Nat → Value) → World → Prop := fun n r w => ∃ (i : Nat) (y : Int) (u1_8 u1_33 u1_34 u1_35 u1_36 u1_37 u1_38 u1_39 u1_40 u1_41 u1_42 : Value), n = m - i ∧ r = base [(S s), (.int .i64 (m : Int)), undef, undef, (.int .i64 0), (S ([] : List UInt8)), (.bool false), (.int .i64 y), u1_8, (.int .i64 (m : Int)), (.bool (decide ((m : Int) < 1))), (.bool (decide ((m : Int) < 1))), (.int .i64 (m : Int)), (.bool (decide (8 < (m : Int)))), (.bool (decide (8 < (m : Int)))), (.bool (decide (8 < (m : Int)))), (S s), (.int .i64 (s.length : Int)), (.int .i64 (m : Int)), (.bool (decide ((s.length : Int) < (m : Int)))), (.bool (decide ((s.length : Int) < (m : Int)))), (.bool (decide ((s.length : Int) < (m : Int)))), (.int .i64 (m : Int)), (.bool (decide ((m : Int) = 8))), (.bool (decide ((m : Int) = 8))), undef, undef, undef, (.bool false), (.bool false), undef, (.int .i64 (m : Int)), (.int .i64 (i : Int)), u1_33, u1_34, u1_35, u1_36, u1_37, u1_38, u1_39, u1_40, u1_41, u1_42, undef, undef, undef, undef] ∧ Has E w [R] ∧ (i ≤ m) ∧ (y = beVal (s.take i))
          rw [show Go.Q.fr 47 _ = Go.Q.fr 47 (base [(S s), (.int .i64 (m : Int)), undef, undef, (.int .i64 0), (S ([] : List UInt8)), (.bool false), (.int .i64 0), undef, (.int .i64 (m : Int)), (.bool (decide ((m : Int) < 1))), (.bool (decide ((m : Int) < 1))), (.int .i64 (m : Int)), (.bool (decide (8 < (m : Int)))), (.bool (decide (8 < (m : Int)))), (.bool (decide (8 < (m : Int)))), (S s), (.int .i64 (s.length : Int)), (.int .i64 (m : Int)), (.bool (decide ((s.length : Int) < (m : Int)))), (.bool (decide ((s.length : Int) < (m : Int)))), (.bool (decide ((s.length : Int) < (m : Int)))), (.int .i64 (m : Int)), (.bool (decide ((m : Int) = 8))), (.bool (decide ((m : Int) = 8))), undef, undef, undef, (.bool false), (.bool false), undef, (.int .i64 (m : Int)), (.int .i64 (0 : Int)), undef, undef, undef, undef, undef, undef, undef, undef, undef, undef, undef, undef, undef, undef]) from fr_lit (by rfl)]
          refine c_loop I38 _ ⟨0, 0, undef, undef, undef, undef, undef, undef, undef, undef, undef, undef, undef, rfl, rfl, hH, Nat.zero_le _, rfl⟩ ?_
          rintro n_ r_ w39 ⟨i, y, u1_8, u1_33, u1_34, u1_35, u1_36, u1_37, u1_38, u1_39, u1_40, u1_41, u1_42, rfl, rfl, hH40, hi, hy⟩
          have hb0 := beVal_nonneg (s.take i)
          have hb1 : i < m → beVal (s.take i) < 36028797018963968 := fun h => beVal_lt h (by omega) (by omega) (.inl (by omega))
          refine wp_seq_k fun K41 hK41 => ?_
          refine c_region ?_
          refine s_op (o_lss (a := (i : Int)) (b := (m : Int)) rfl rfl ?_)
          refine s_nil ?_
          refine t_norm (hK41 _ _ ?_)
          refine wp_seq_k fun K42 hK42 => ?_
          refine c_cond rfl (fun h43 => ?_) (fun h43 => ?_)
          · -- (i : Int) < (m : Int)
            refine wp_skip ?_
            refine t_norm (hK42 _ _ ?_)
            refine wp_seq_k fun K44 hK44 => ?_
            refine wp_block ?_
            refine wp_seq_k fun K45 hK45 => ?_
            refine c_region ?_
            refine s_op (o_move (v := (.int .i64 (i : Int))) rfl ?_)
            refine s_op (o_assign (v := (.int .i64 (i : Int))) rfl ?_)
            refine s_nil ?_
            refine t_norm (hK45 _ _ ?_)
            refine c_region ?_
            refine s_op (o_move (v := (.int .i64 y)) rfl ?_)
            refine s_op (o_shl (c := y * 256) rfl rfl (by omega) (shl_lit (by omega) (by omega) rfl) ?_)
            refine s_op (o_move (v := (S s)) rfl ?_)
            refine s_op (o_move (v := (.int .i64 (i : Int))) rfl ?_)
            obtain ⟨c46, hx47⟩ : ∃ x, s[((i : Int)).toNat]? = some x := get_some (by omega)
            refine s_op (o_sidx Try.underlying9 rfl rfl (by omega) hx47 ?_)
            refine s_op (o_conv Try.underlying5 Try.underlying3 rfl (w_u8 _) ?_)
            refine s_op (o_or (c := y * 256 + (c46.toNat : Int)) rfl rfl (or8 (by omega) (by omega) _) ?_)
            refine s_op (o_assign (v := (.int .i64 (y * 256 + (c46.toNat : Int)))) rfl ?_)
            refine s_nil ?_
            refine b_norm ?_
            refine t_norm (hK44 _ _ ?_)
            refine c_region ?_
            refine s_op (o_add (a := (i : Int)) (b := 1) rfl rfl (w64 (by omega) (by omega)) ?_)
            refine s_op (o_move (v := (.int .i64 ((i : Int) + 1))) rfl ?_)
            refine s_nil ?_
            refine t_norm ⟨m - (i + 1), base [(S s), (.int .i64 (m : Int)), undef, undef, (.int .i64 0), (S ([] : List UInt8)), (.bool false), (.int .i64 (y * 256 + (c46.toNat : Int))), (.int .i64 (i : Int)), (.int .i64 (m : Int)), (.bool (decide ((m : Int) < 1))), (.bool (decide ((m : Int) < 1))), (.int .i64 (m : Int)), (.bool (decide (8 < (m : Int)))), (.bool (decide (8 < (m : Int)))), (.bool (decide (8 < (m : Int)))), (S s), (.int .i64 (s.length : Int)), (.int .i64 (m : Int)), (.bool (decide ((s.length : Int) < (m : Int)))), (.bool (decide ((s.length : Int) < (m : Int)))), (.bool (decide ((s.length : Int) < (m : Int)))), (.int .i64 (m : Int)), (.bool (decide ((m : Int) = 8))), (.bool (decide ((m : Int) = 8))), undef, undef, undef, (.bool false), (.bool false), undef, (.int .i64 (m : Int)), (.int .i64 ((i : Int) + 1)), (.bool (decide ((i : Int) < (m : Int)))), (.int .i64 (i : Int)), (.int .i64 y), (.int .i64 (y * 256)), (S s), (.int .i64 (i : Int)), (bV c46), (.int .i64 (c46.toNat : Int)), (.int .i64 (y * 256 + (c46.toNat : Int))), (.int .i64 ((i : Int) + 1)), undef, undef, undef, undef], fr_lit (by rfl), ?_, ?_⟩
            · omega
            · exact ⟨(i + 1), (y * 256 + (c46.toNat : Int)), _, _, _, _, _, _, _, _, _, _, _, rfl, rfl, hH40, (by omega), (by rw [take_succ_of (by simpa using hx47), beVal_snoc, ← hy])⟩
          · -- not: (i : Int) < (m : Int)
            refine wp_exit ?_
            refine t_exit (t_exit (x_in (?_)))
            refine t_norm (hK36 _ _ ?_)
            refine wp_seq_k fun K48 hK48 => ?_
            refine c_flow [R] (fun i_ => match i_ with | _ => []) (fun i_ v_ h_ => match i_ with | 0 => v_ = (.int .i64 y) ∧ h_ = [] | 1 => v_ = (S s) ∧ h_ = [] | 2 => v_ = (.int .i64 (m : Int)) ∧ h_ = [] | 3 => v_ = (S (s.drop ((m : Int)).toNat)) ∧ h_ = [] | 4 => v_ = (.int .i64 y) ∧ h_ = [] | 5 => v_ = (S (s.drop ((m : Int)).toNat)) ∧ h_ = [] | 6 => v_ = (.bool true) ∧ h_ = [] | _ => True) mixed (by kernel_rfl) (flow_has (cs := []) hH40 rfl) ?_ ?_
            · intro i_ o_ ho_ r' w' G hs_ ht
              match i_, ho_ with
              | 0, ho_ =>
                obtain rfl := Option.some.inj ho_
                have e7 : r' 7 = (.int .i64 y) := ht.was 7 (by kernel_rfl)
                have hG := ht.has.drop
                refine o_move (v := (.int .i64 y)) e7 ?_
                exact ⟨_, ⟨rfl, rfl⟩, hG⟩
              | 1, ho_ =>
                obtain rfl := Option.some.inj ho_
                have e0 : r' 0 = (S s) := ht.was 0 (by kernel_rfl)
                have hG := ht.has.drop
                refine o_move (v := (S s)) e0 ?_
                exact ⟨_, ⟨rfl, rfl⟩, hG⟩
              | 2, ho_ =>
                obtain rfl := Option.some.inj ho_
                have e1 : r' 1 = (.int .i64 (m : Int)) := ht.was 1 (by kernel_rfl)
                have hG := ht.has.drop
                refine o_move (v := (.int .i64 (m : Int))) e1 ?_
                exact ⟨_, ⟨rfl, rfl⟩, hG⟩
              | 3, ho_ =>
                obtain rfl := Option.some.inj ho_
                obtain ⟨e44, eh1⟩ := (ht.done 1 _ rfl rfl).1
                obtain ⟨e45, eh2⟩ := (ht.done 2 _ rfl rfl).1
                have hG := ht.has.drop
                refine o_ssl_l Try.underlying9 e44 e45 (by omega) (by omega) ?_
                exact ⟨_, ⟨rfl, rfl⟩, hG⟩
              | 4, ho_ =>
                obtain rfl := Option.some.inj ho_
                obtain ⟨e43, eh0⟩ := (ht.done 0 _ rfl rfl).1
                have hG := ht.has.drop
                refine o_assign (v := (.int .i64 y)) e43 ?_
                exact ⟨_, ⟨rfl, rfl⟩, hG⟩
              | 5, ho_ =>
                obtain rfl := Option.some.inj ho_
                obtain ⟨e46, eh3⟩ := (ht.done 3 _ rfl rfl).1
                have hG := ht.has.drop
                refine o_assign (v := (S (s.drop ((m : Int)).toNat))) e46 ?_
                exact ⟨_, ⟨rfl, rfl⟩, hG⟩
              | 6, ho_ =>
                obtain rfl := Option.some.inj ho_
                have hG := ht.has.drop
                refine o_assign (v := (.bool true)) rfl ?_
                exact ⟨_, ⟨rfl, rfl⟩, hG⟩
              | i_ + 7, ho_ => exact absurd ho_ (by simp)
            · intro vs49 hs50 w51 hT52 hH53
              obtain ⟨e0_, eh0_⟩ := hT52 0 _ rfl
              obtain ⟨e1_, eh1_⟩ := hT52 1 _ rfl
              obtain ⟨e2_, eh2_⟩ := hT52 2 _ rfl
              obtain ⟨e3_, eh3_⟩ := hT52 3 _ rfl
              obtain ⟨e4_, eh4_⟩ := hT52 4 _ rfl
              obtain ⟨e5_, eh5_⟩ := hT52 5 _ rfl
              obtain ⟨e6_, eh6_⟩ := hT52 6 _ rfl
              have hH54 : Has E w51 ([R] ++ []) := flow_back (cs := []) hH53 (by show (hs50 0 ++ (hs50 1 ++ (hs50 2 ++ (hs50 3 ++ (hs50 4 ++ (hs50 5 ++ (hs50 6 ++ []))))))) = _; rw [eh0_, eh1_, eh2_, eh3_, eh4_, eh5_, eh6_]; rfl)
              rw [show Go.Q.fr 47 (puts vs49 _ 0 _) = Go.Q.fr 47 (base [(S s), (.int .i64 (m : Int)), undef, undef, (.int .i64 y), (S (s.drop ((m : Int)).toNat)), (.bool true), (.int .i64 y), u1_8, (.int .i64 (m : Int)), (.bool (decide ((m : Int) < 1))), (.bool (decide ((m : Int) < 1))), (.int .i64 (m : Int)), (.bool (decide (8 < (m : Int)))), (.bool (decide (8 < (m : Int)))), (.bool (decide (8 < (m : Int)))), (S s), (.int .i64 (s.length : Int)), (.int .i64 (m : Int)), (.bool (decide ((s.length : Int) < (m : Int)))), (.bool (decide ((s.length : Int) < (m : Int)))), (.bool (decide ((s.length : Int) < (m : Int)))), (.int .i64 (m : Int)), (.bool (decide ((m : Int) = 8))), (.bool (decide ((m : Int) = 8))), undef, undef, undef, (.bool false), (.bool false), undef, (.int .i64 (m : Int)), (.int .i64 (i : Int)), (.bool (decide ((i : Int) < (m : Int)))), u1_34, u1_35, u1_36, u1_37, u1_38, u1_39, u1_40, u1_41, u1_42, (.int .i64 y), (S s), (.int .i64 (m : Int)), (S (s.drop ((m : Int)).toNat))]) from fr_lit (by show [(S s), (.int .i64 (m : Int)), undef, undef, vs49 4, vs49 5, vs49 6, (.int .i64 y), u1_8, (.int .i64 (m : Int)), (.bool (decide ((m : Int) < 1))), (.bool (decide ((m : Int) < 1))), (.int .i64 (m : Int)), (.bool (decide (8 < (m : Int)))), (.bool (decide (8 < (m : Int)))), (.bool (decide (8 < (m : Int)))), (S s), (.int .i64 (s.length : Int)), (.int .i64 (m : Int)), (.bool (decide ((s.length : Int) < (m : Int)))), (.bool (decide ((s.length : Int) < (m : Int)))), (.bool (decide ((s.length : Int) < (m : Int)))), (.int .i64 (m : Int)), (.bool (decide ((m : Int) = 8))), (.bool (decide ((m : Int) = 8))), undef, undef, undef, (.bool false), (.bool false), undef, (.int .i64 (m : Int)), (.int .i64 (i : Int)), (.bool (decide ((i : Int) < (m : Int)))), u1_34, u1_35, u1_36, u1_37, u1_38, u1_39, u1_40, u1_41, u1_42, vs49 0, vs49 1, vs49 2, vs49 3] = _; rw [e0_, e1_, e2_, e3_, e4_, e5_, e6_])]
              refine t_norm (hK48 _ _ ?_)
              refine wp_ret ?_
              refine c_ret3 Try.results29 (v := (.int .i64 y)) rfl (x := (S (s.drop ((m : Int)).toNat))) rfl (y := (.bool true)) rfl ?_
              have e : i = m := by omega
              rw [e] at hy
              exact ⟨by rw [takeS_yes (by omega) (by omega) (by omega) (.inl (by omega)), hy]; rfl, hH54⟩
end Go.Q
