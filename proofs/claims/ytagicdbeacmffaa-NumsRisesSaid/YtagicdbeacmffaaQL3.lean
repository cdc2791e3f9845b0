/-
  Parts of a walk: what functions of the program compute, each told by a theorem.
-/
import Derived.Test.YtagicdbeacmffaaQI
import Derived.Test.YtagicdbeacmffaaQS5
import Derived.Test.YtagicdbeacmffaaQM
namespace Go.Q
set_option linter.unusedSimpArgs false
open Go.Proofs
set_option linter.unusedVariables false
set_option maxRecDepth 100000
attribute [local irreducible] wpList OK Code.wp
set_option maxHeartbeats 4000000 in
theorem NumsRises_c {E w : World} {R : List Hp} (hH : Has E w [R]) (z : Int) (hz : 0 ≤ z ∧ z ≤ 255) (a : Int) (ha : -9223372036854775808 ≤ a ∧ a ≤ 9223372036854775807) (b : Int) (hb : -9223372036854775808 ≤ b ∧ b ≤ 9223372036854775807) :
    Calls Try.prog 5 #[(.int .u8 z), (.int .i64 a), (.int .i64 b)] w fun e w' => e = .returned (.bool true) ∧ Has E w' [R] := by
  refine c_enter (args := [(.int .u8 z), (.int .i64 a), (.int .i64 b)]) Try.func5 rfl Try.ntmps5 (by simp) ?_
  refine wp_seq_k fun K1 hK1 => ?_
  refine c_region ?_
  refine s_op (o_assign (v := (.bool false)) rfl ?_)
  refine s_nil ?_
  refine t_norm (hK1 _ _ ?_)
  refine wp_seq_k fun K2 hK2 => ?_
  refine c_region ?_
  refine s_op (o_move (v := (.int .u8 z)) rfl ?_)
  refine s_op (o_rem (a := z) (b := 8) (c := z % 8) rfl rfl (by omega) ((Int.tmod_eq_emod_of_nonneg (by omega))) ?_)
  refine s_op (o_conv (c := (z % 8)) Try.underlying5 Try.underlying3 rfl (w64 (by omega) (by omega)) ?_)
  obtain ⟨k, hk⟩ : ∃ k : Nat, 1 + z % 8 = (k : Int) := ⟨(1 + z % 8).toNat, by omega⟩
  refine s_op (o_add (c := (k : Int)) rfl rfl ((w64 (by omega) (by omega)).trans hk) ?_)
  refine s_op (o_assign (v := (.int .i64 (k : Int))) rfl ?_)
  refine s_nil ?_
  refine t_norm (hK2 _ _ ?_)
  refine wp_seq_k fun K3 hK3 => ?_
  refine c_region ?_
  refine s_op (o_move (v := (.int .i64 (k : Int))) rfl ?_)
  refine s_op (o_move (v := (.int .i64 a)) rfl ?_)
  refine s_op (o_buildSlice (ps := #[(0, (.int .i64 a))]) (cells := #[(.int .i64 a)]) Try.underlying28 ti3 (by decide) (parts1 rfl) (by kernel_rfl) hH fun b4 w5 hH6 => ?_)
  refine s_op (o_callf (vs := #[(.int .i64 (k : Int)), (.slice (some ⟨b4, 0, none⟩) 1 1)]) ca26 rfl (args2 rfl rfl) (put_c hH6.all (l := [a]) k ((sl_lit (f := iV) (l := [a]) rfl rfl (by simp)).mono (seg_sub 0 rfl)) (by first | omega | (simp only [List.length_cons, List.length_nil]; omega))) ?_)
  rintro _ w9 ⟨rfl, hX7⟩
  refine ⟨_, rfl, ?_⟩
  have hH8 := hX7.of_all
  refine s_op (o_move (v := (.int .i64 (k : Int))) rfl ?_)
  refine s_op (o_move (v := (.int .i64 b)) rfl ?_)
  refine s_op (o_buildSlice (ps := #[(0, (.int .i64 b))]) (cells := #[(.int .i64 b)]) Try.underlying28 ti3 (by decide) (parts1 rfl) (by kernel_rfl) hH8 fun b10 w11 hH12 => ?_)
  refine s_op (o_callf (vs := #[(.int .i64 (k : Int)), (.slice (some ⟨b10, 0, none⟩) 1 1)]) ca26 rfl (args2 rfl rfl) (put_c hH12.all (l := [b]) k ((sl_lit (f := iV) (l := [b]) rfl rfl (by simp)).mono (seg_sub 0 rfl)) (by first | omega | (simp only [List.length_cons, List.length_nil]; omega))) ?_)
  rintro _ w15 ⟨rfl, hX13⟩
  refine ⟨_, rfl, ?_⟩
  have hH14 := hX13.of_all
  refine s_op (o_assign (v := (S (putS k [a]))) rfl ?_)
  refine s_op (o_assign (v := (S (putS k [b]))) rfl ?_)
  refine s_nil ?_
  refine t_norm (hK3 _ _ ?_)
  refine wp_seq_k fun K16 hK16 => ?_
  refine wp_seq_k fun K17 hK17 => ?_
  refine c_region ?_
  refine s_op (o_move (v := (S (putS k [a]))) rfl ?_)
  refine s_op (o_seql (a := putS k [a]) (b := ([] : List UInt8)) rfl rfl ?_)
  refine s_op (o_move (v := (.bool (decide (putS k [a] = ([] : List UInt8))))) rfl ?_)
  by_cases h18 : putS k [a] = ([] : List UInt8)
  · -- putS k [a] = ([] : List UInt8)
    refine s_off (b' := true) 24 rfl (congrArg Value.bool (decide_eq_true h18)) rfl ?_
    refine s_off (b' := true) 24 rfl (congrArg Value.bool (decide_eq_true h18)) rfl ?_
    refine s_op (o_pick_t (u := (.bool true)) ((rfl : _ = _).trans (congrArg Value.bool (decide_eq_true h18))) rfl ?_)
    refine s_nil ?_
    refine t_norm (hK17 _ _ ?_)
    refine c_true rfl rfl ?_
    refine wp_seq_k fun K19 hK19 => ?_
    refine c_region ?_
    refine s_op (o_move (v := (.int .i64 (k : Int))) rfl ?_)
    refine s_op (o_move (v := (.int .i64 a)) rfl ?_)
    refine s_op (o_move (v := (.int .i64 b)) rfl ?_)
    refine s_op (o_buildSlice (ps := #[(0, (.int .i64 a)), (1, (.int .i64 b))]) (cells := #[(.int .i64 a), (.int .i64 b)]) Try.underlying28 ti3 (by decide) (parts2 rfl rfl) (by kernel_rfl) hH14 fun b20 w21 hH22 => ?_)
    refine s_op (o_callf (vs := #[(.int .i64 (k : Int)), (.slice (some ⟨b20, 0, none⟩) 2 2)]) ca26 rfl (args2 rfl rfl) (put_c hH22.all (l := [a, b]) k ((sl_lit (f := iV) (l := [a, b]) rfl rfl (by simp)).mono (seg_sub 0 rfl)) (by first | omega | (simp only [List.length_cons, List.length_nil]; omega))) ?_)
    rintro _ w25 ⟨rfl, hX23⟩
    refine ⟨_, rfl, ?_⟩
    have hH24 := hX23.of_all
    refine s_op (o_seql (a := putS k [a, b]) (b := ([] : List UInt8)) rfl rfl ?_)
    refine s_op (o_move (v := (.bool (decide (putS k [a, b] = ([] : List UInt8))))) rfl ?_)
    by_cases h26 : putS k [a, b] = ([] : List UInt8)
    · -- putS k [a, b] = ([] : List UInt8)
      refine s_on 34 rfl (congrArg Value.bool (decide_eq_true h26)) (o_callf (vs := #[]) ca27 rfl (args0) (awake_c hH24.all) ?_)
      rintro _ w29 ⟨rfl, hX27⟩
      refine ⟨_, rfl, ?_⟩
      have hH28 := hX27.of_all
      refine s_op (o_pick_t (u := (.bool true)) ((rfl : _ = _).trans (congrArg Value.bool (decide_eq_true h26))) rfl ?_)
      refine s_op (o_assign (v := (.bool true)) rfl ?_)
      refine s_nil ?_
      refine t_norm (hK19 _ _ ?_)
      refine wp_ret ?_
      refine t_ret (c_ret1 Try.results5 (v := (.bool true)) rfl ?_)
      have hH30 : Has E w29 [R] := (hH28.front 3 rfl).first 1 rfl
      exact ⟨rfl, hH30⟩
    · -- not: putS k [a, b] = ([] : List UInt8)
      exact absurd (put_two_no (by omega) (by omega) (.inl h18)) h26
  · -- not: putS k [a] = ([] : List UInt8)
    refine s_on 24 rfl (congrArg Value.bool (decide_eq_false h18)) (o_move (v := (S (putS k [b]))) rfl ?_)
    refine s_on 24 rfl (congrArg Value.bool (decide_eq_false h18)) (o_seql (a := putS k [b]) (b := ([] : List UInt8)) rfl rfl ?_)
    refine s_op (o_pick_f (u := (.bool (decide (putS k [b] = ([] : List UInt8))))) ((rfl : _ = _).trans (congrArg Value.bool (decide_eq_false h18))) rfl ?_)
    refine s_nil ?_
    refine t_norm (hK17 _ _ ?_)
    refine c_cond rfl (fun h31 => ?_) (fun h31 => ?_)
    · -- putS k [b] = ([] : List UInt8)
      refine wp_seq_k fun K32 hK32 => ?_
      refine c_region ?_
      refine s_op (o_move (v := (.int .i64 (k : Int))) rfl ?_)
      refine s_op (o_move (v := (.int .i64 a)) rfl ?_)
      refine s_op (o_move (v := (.int .i64 b)) rfl ?_)
      refine s_op (o_buildSlice (ps := #[(0, (.int .i64 a)), (1, (.int .i64 b))]) (cells := #[(.int .i64 a), (.int .i64 b)]) Try.underlying28 ti3 (by decide) (parts2 rfl rfl) (by kernel_rfl) hH14 fun b33 w34 hH35 => ?_)
      refine s_op (o_callf (vs := #[(.int .i64 (k : Int)), (.slice (some ⟨b33, 0, none⟩) 2 2)]) ca26 rfl (args2 rfl rfl) (put_c hH35.all (l := [a, b]) k ((sl_lit (f := iV) (l := [a, b]) rfl rfl (by simp)).mono (seg_sub 0 rfl)) (by first | omega | (simp only [List.length_cons, List.length_nil]; omega))) ?_)
      rintro _ w38 ⟨rfl, hX36⟩
      refine ⟨_, rfl, ?_⟩
      have hH37 := hX36.of_all
      refine s_op (o_seql (a := putS k [a, b]) (b := ([] : List UInt8)) rfl rfl ?_)
      refine s_op (o_move (v := (.bool (decide (putS k [a, b] = ([] : List UInt8))))) rfl ?_)
      by_cases h39 : putS k [a, b] = ([] : List UInt8)
      · -- putS k [a, b] = ([] : List UInt8)
        refine s_on 34 rfl (congrArg Value.bool (decide_eq_true h39)) (o_callf (vs := #[]) ca27 rfl (args0) (awake_c hH37.all) ?_)
        rintro _ w42 ⟨rfl, hX40⟩
        refine ⟨_, rfl, ?_⟩
        have hH41 := hX40.of_all
        refine s_op (o_pick_t (u := (.bool true)) ((rfl : _ = _).trans (congrArg Value.bool (decide_eq_true h39))) rfl ?_)
        refine s_op (o_assign (v := (.bool true)) rfl ?_)
        refine s_nil ?_
        refine t_norm (hK32 _ _ ?_)
        refine wp_ret ?_
        refine t_ret (c_ret1 Try.results5 (v := (.bool true)) rfl ?_)
        have hH43 : Has E w42 [R] := (hH41.front 3 rfl).first 1 rfl
        exact ⟨rfl, hH43⟩
      · -- not: putS k [a, b] = ([] : List UInt8)
        exact absurd (put_two_no (by omega) (by omega) (.inr h31)) h39
    · -- not: putS k [b] = ([] : List UInt8)
      refine wp_skip ?_
      refine t_norm (hK16 _ _ ?_)
      refine wp_seq_k fun K44 hK44 => ?_
      refine c_region ?_
      refine s_op (o_move (v := (S (putS k [a]))) rfl ?_)
      refine s_op (o_move (v := (S (putS k [b]))) rfl ?_)
      refine s_op (o_slss rfl rfl ?_)
      refine s_op (o_move (v := (.int .i64 a)) rfl ?_)
      refine s_op (o_move (v := (.int .i64 b)) rfl ?_)
      refine s_op (o_lss (a := a) (b := b) rfl rfl ?_)
      refine s_op (o_eqlb Try.underlying4 rfl rfl ?_)
      refine s_op (o_move (v := (.bool ((Op.bytesLess (putS k [a]) (putS k [b])) == (decide (a < b))))) rfl ?_)
      rcases Bool.eq_false_or_eq_true ((Op.bytesLess (putS k [a]) (putS k [b])) == (decide (a < b))) with h45 | h45
      · -- (Op.bytesLess (putS k [a]) (putS k [b])) == (decide (a < b))
        refine s_on 44 rfl (congrArg Value.bool h45) (o_move (v := (S (putS k [a]))) rfl ?_)
        refine s_on 44 rfl (congrArg Value.bool h45) (o_move (v := (S (putS k [b]))) rfl ?_)
        refine s_on 44 rfl (congrArg Value.bool h45) (o_seql (a := putS k [a]) (b := putS k [b]) rfl rfl ?_)
        refine s_on 44 rfl (congrArg Value.bool h45) (o_move (v := (.int .i64 a)) rfl ?_)
        refine s_on 44 rfl (congrArg Value.bool h45) (o_move (v := (.int .i64 b)) rfl ?_)
        refine s_on 44 rfl (congrArg Value.bool h45) (o_eql (a := a) (b := b) rfl rfl ?_)
        refine s_on 44 rfl (congrArg Value.bool h45) (o_eqlb Try.underlying4 rfl rfl ?_)
        refine s_op (o_pick_t (u := (.bool ((decide (putS k [a] = putS k [b])) == (decide (a = b))))) ((rfl : _ = _).trans (congrArg Value.bool h45)) rfl ?_)
        refine s_op (o_move (v := (.bool ((decide (putS k [a] = putS k [b])) == (decide (a = b))))) rfl ?_)
        rcases Bool.eq_false_or_eq_true ((decide (putS k [a] = putS k [b])) == (decide (a = b))) with h46 | h46
        · -- (decide (putS k [a] = putS k [b])) == (decide (a = b))
          refine s_on 53 rfl (congrArg Value.bool h46) (o_move (v := (.int .i64 (k : Int))) rfl ?_)
          refine s_on 53 rfl (congrArg Value.bool h46) (o_move (v := (.int .i64 a)) rfl ?_)
          refine s_on 53 rfl (congrArg Value.bool h46) (o_move (v := (.int .i64 b)) rfl ?_)
          refine s_on 53 rfl (congrArg Value.bool h46) (o_buildSlice (ps := #[(0, (.int .i64 a)), (1, (.int .i64 b))]) (cells := #[(.int .i64 a), (.int .i64 b)]) Try.underlying28 ti3 (by decide) (parts2 rfl rfl) (by kernel_rfl) hH14 fun b47 w48 hH49 => ?_)
          refine s_on 53 rfl (congrArg Value.bool h46) (o_callf (vs := #[(.int .i64 (k : Int)), (.slice (some ⟨b47, 0, none⟩) 2 2)]) ca26 rfl (args2 rfl rfl) (put_c hH49.all (l := [a, b]) k ((sl_lit (f := iV) (l := [a, b]) rfl rfl (by simp)).mono (seg_sub 0 rfl)) (by first | omega | (simp only [List.length_cons, List.length_nil]; omega))) ?_)
          rintro _ w52 ⟨rfl, hX50⟩
          refine ⟨_, rfl, ?_⟩
          have hH51 := hX50.of_all
          refine s_on 53 rfl (congrArg Value.bool h46) (o_move (v := (S (putS k [a]))) rfl ?_)
          refine s_on 53 rfl (congrArg Value.bool h46) (o_move (v := (S (putS k [b]))) rfl ?_)
          refine s_on 53 rfl (congrArg Value.bool h46) (o_sadd rfl rfl (by have := put_one_len k a; have := put_one_len k b; omega) ?_)
          refine s_on 53 rfl (congrArg Value.bool h46) (o_seql (a := putS k [a, b]) (b := (putS k [a]) ++ (putS k [b])) rfl rfl ?_)
          refine s_op (o_pick_t (u := (.bool (decide (putS k [a, b] = (putS k [a]) ++ (putS k [b]))))) ((rfl : _ = _).trans (congrArg Value.bool h46)) rfl ?_)
          refine s_op (o_move (v := (.bool (decide (putS k [a, b] = (putS k [a]) ++ (putS k [b]))))) rfl ?_)
          by_cases h53 : putS k [a, b] = (putS k [a]) ++ (putS k [b])
          · -- putS k [a, b] = (putS k [a]) ++ (putS k [b])
            refine s_on 64 rfl (congrArg Value.bool (decide_eq_true h53)) (o_move (v := (S (putS k [a]))) rfl ?_)
            refine s_on 64 rfl (congrArg Value.bool (decide_eq_true h53)) (o_slen Try.underlying9 rfl ?_)
            refine s_on 64 rfl (congrArg Value.bool (decide_eq_true h53)) (o_move (v := (.int .i64 (k : Int))) rfl ?_)
            refine s_on 64 rfl (congrArg Value.bool (decide_eq_true h53)) (o_eql (a := ((putS k [a]).length : Int)) (b := (k : Int)) rfl rfl ?_)
            refine s_op (o_pick_t (u := (.bool (decide (((putS k [a]).length : Int) = (k : Int))))) ((rfl : _ = _).trans (congrArg Value.bool (decide_eq_true h53))) rfl ?_)
            refine s_op (o_move (v := (.bool (decide (((putS k [a]).length : Int) = (k : Int))))) rfl ?_)
            by_cases h54 : ((putS k [a]).length : Int) = (k : Int)
            · -- ((putS k [a]).length : Int) = (k : Int)
              refine s_on 70 rfl (congrArg Value.bool (decide_eq_true h54)) (o_callf (vs := #[]) ca27 rfl (args0) (awake_c hH51.all) ?_)
              rintro _ w57 ⟨rfl, hX55⟩
              refine ⟨_, rfl, ?_⟩
              have hH56 := hX55.of_all
              refine s_op (o_pick_t (u := (.bool true)) ((rfl : _ = _).trans (congrArg Value.bool (decide_eq_true h54))) rfl ?_)
              refine s_op (o_assign (v := (.bool true)) rfl ?_)
              refine s_nil ?_
              refine t_norm (hK44 _ _ ?_)
              refine wp_ret ?_
              refine c_ret1 Try.results5 (v := (.bool true)) rfl ?_
              have hH58 : Has E w57 [R] := (hH56.front 3 rfl).first 1 rfl
              exact ⟨rfl, hH58⟩
            · -- not: ((putS k [a]).length : Int) = (k : Int)
              exact absurd (congrArg Int.ofNat (put_one_length (by omega) (by omega) h18)) h54
          · -- not: putS k [a, b] = (putS k [a]) ++ (putS k [b])
            exact absurd (put_two (by omega) (by omega) h18 h31) h53
        · -- not: (decide (putS k [a] = putS k [b])) == (decide (a = b))
          rw [rises_same (by omega) (by omega) h18 h31 ha.2 hb.2] at h46; simp at h46
      · -- not: (Op.bytesLess (putS k [a]) (putS k [b])) == (decide (a < b))
        rw [rises_less (by omega) (by omega) h18 h31 ha.2 hb.2] at h45; simp at h45
end Go.Q
