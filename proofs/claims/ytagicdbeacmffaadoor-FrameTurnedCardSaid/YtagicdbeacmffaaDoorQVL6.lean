/-
  Parts of a walk: what functions of the program compute, each told by a theorem.
-/
import Derived.Test.YtagicdbeacmffaaDoorQV10
import Derived.Test.YtagicdbeacmffaaDoorQV4
import Derived.Test.YtagicdbeacmffaaDoorQFrame3
set_option linter.unusedVariables false
set_option linter.unusedSimpArgs false
namespace Go.Q
open Go.Proofs
set_option linter.unusedVariables false
set_option maxRecDepth 100000
attribute [local irreducible] wpList OK Code.wp
set_option maxHeartbeats 4000000 in
theorem FrameTurned_c {E w : World} {R : List Hp} (hH : Has E w [R]) (hg : CellsAt R 0 0 nibV) (f : Fr) (hfl : f.data.length ≤ 9223372036854775807) (at_ : Int) (bv : BitVec 32) :
    Calls Tryd.prog 8 #[(.agg #[(.int .i64 f.ep), (.int .i64 f.pl), (.int .i64 f.gsn), (S f.data)]), (.int .i64 at_), (.int .u32 (bv.toNat : Int))] w fun e w' => e = .returned (.bool true) ∧ Has E w' [R] := by
  refine c_enter (args := [(.agg #[(.int .i64 f.ep), (.int .i64 f.pl), (.int .i64 f.gsn), (S f.data)]), (.int .i64 at_), (.int .u32 (bv.toNat : Int))]) Tryd.func8 rfl Tryd.ntmps8 (by simp) ?_
  refine wp_seq_k fun K1 hK1 => ?_
  refine c_region ?_
  refine s_op (o_box (cs := #[(.int .i64 f.ep), (.int .i64 f.pl), (.int .i64 f.gsn), (S f.data)]) rfl rfl hH fun b2 w3 hH4 => ?_)
  refine s_op (o_assign (v := (.bool false)) rfl ?_)
  refine s_nil ?_
  refine t_norm (hK1 _ _ ?_)
  refine wp_seq_k fun K5 hK5 => ?_
  refine c_region ?_
  refine s_op (o_loadN (cs := [(.int .i64 f.ep), (.int .i64 f.pl), (.int .i64 f.gsn), (S f.data)]) Tryd.underlying43 rfl ti43 rfl hH4 (seg_sub 0 rfl) (CellsAt.one rfl) ?_)
  refine s_op (o_callf (vs := #[(.agg #[(.int .i64 f.ep), (.int .i64 f.pl), (.int .i64 f.gsn), (S f.data)]), (.slice none 0 0)]) ca26 rfl (args2 rfl rfl) (make1_c hH4.all (hg.mono (seg_sub 1 rfl)) f (by omega)) ?_)
  rintro _ w8 ⟨rfl, hX6⟩
  refine ⟨_, rfl, ?_⟩
  have hH7 := hX6.of_all
  refine s_op (o_assign (v := (S (makeS f))) rfl ?_)
  refine s_nil ?_
  refine t_norm (hK5 _ _ ?_)
  refine wp_seq_k fun K9 hK9 => ?_
  refine wp_seq_k fun K10 hK10 => ?_
  refine c_region ?_
  refine s_op (o_move (v := (S (makeS f))) rfl ?_)
  refine s_op (o_slen Tryd.underlying9 rfl ?_)
  refine s_op (o_lss (a := ((makeS f).length : Int)) (b := 25) rfl rfl ?_)
  refine s_nil ?_
  refine t_norm (hK10 _ _ ?_)
  refine c_cond rfl (fun h11 => ?_) (fun h11 => ?_)
  · -- ((makeS f).length : Int) < 25
    have hz := makeS_short (f := f) (by omega)
    refine wp_seq_k fun K12 hK12 => ?_
    refine c_region ?_
    refine s_op (o_move (v := (S (makeS f))) rfl ?_)
    refine s_op (o_seql (a := (makeS f)) (b := ([] : List UInt8)) rfl rfl ?_)
    refine s_op (o_move (v := (.bool (decide ((makeS f) = ([] : List UInt8))))) rfl ?_)
    by_cases h13 : (makeS f) = ([] : List UInt8)
    · -- (makeS f) = ([] : List UInt8)
      refine s_on 19 rfl (congrArg Value.bool (decide_eq_true h13)) (o_loadN (cs := [(.int .i64 f.ep), (.int .i64 f.pl), (.int .i64 f.gsn), (S f.data)]) Tryd.underlying43 rfl ti43 rfl hH7 (seg_sub 0 rfl) (CellsAt.one rfl) ?_)
      refine s_on 19 rfl (congrArg Value.bool (decide_eq_true h13)) (o_callf (vs := #[(.agg #[(.int .i64 f.ep), (.int .i64 f.pl), (.int .i64 f.gsn), (S f.data)])]) ca27 rfl (args1 rfl) (refright_c hH7.all f (by omega)) ?_)
      rintro _ w16 ⟨rfl, hX14⟩
      refine ⟨_, rfl, ?_⟩
      have hH15 := hX14.of_all
      refine s_on 19 rfl (congrArg Value.bool (decide_eq_true h13)) (o_not rfl ?_)
      refine s_op (o_pick_t (u := (.bool (!(rightS f)))) ((rfl : _ = _).trans (congrArg Value.bool (decide_eq_true h13))) rfl ?_)
      refine s_op (o_move (v := (.bool (!(rightS f)))) rfl ?_)
      rcases Bool.eq_false_or_eq_true (!(rightS f)) with h17 | h17
      · -- !(rightS f)
        refine s_on 24 rfl (congrArg Value.bool h17) (o_callf (vs := #[]) ca23 rfl (args0) (awake3_c hH15.all (hg.mono (seg_sub 1 rfl))) ?_)
        rintro _ w20 ⟨rfl, hX18⟩
        refine ⟨_, rfl, ?_⟩
        have hH19 := hX18.of_all
        refine s_op (o_pick_t (u := (.bool true)) ((rfl : _ = _).trans (congrArg Value.bool h17)) rfl ?_)
        refine s_op (o_assign (v := (.bool true)) rfl ?_)
        refine s_nil ?_
        refine t_norm (hK12 _ _ ?_)
        refine wp_ret ?_
        refine t_ret (c_ret1 Tryd.results8  (v := (.bool true)) rfl ?_)
        have hH21 : Has E w20 [R] := (hH19.front 1 rfl).first 1 rfl
        exact ⟨rfl, hH21⟩
      · -- not: !(rightS f)
        rw [hz.2] at h17
        cases h17
    · -- not: (makeS f) = ([] : List UInt8)
      exact absurd hz.1 h13
  · -- not: ((makeS f).length : Int) < 25
    have hr := makeS_long (f := f) (by omega)
    have hml := makeS_len hr
    have hrl := (rightS_of hr).2.2.2.2.2.2
    refine wp_skip ?_
    refine t_norm (hK9 _ _ ?_)
    refine wp_seq_k fun K22 hK22 => ?_
    refine c_region ?_
    refine s_op (o_move (v := (S (makeS f))) rfl ?_)
    refine s_op (o_move (v := (.int .i64 at_)) rfl ?_)
    have hw23 := wrap_u64 at_
    refine s_op (o_conv (c := (IntKind.wrap .u64 at_)) Tryd.underlying3 Tryd.underlying33 rfl rfl ?_)
    refine s_op (o_move (v := (S (makeS f))) rfl ?_)
    refine s_op (o_slen Tryd.underlying9 rfl ?_)
    refine s_op (o_mul (a := 8) (b := ((makeS f).length : Int)) rfl rfl (w64 (by omega) (by omega)) ?_)
    refine s_op (o_sub (a := 8 * ((makeS f).length : Int)) (b := 8) rfl rfl (w64 (by omega) (by omega)) ?_)
    refine s_op (o_conv (c := ((8 * ((makeS f).length : Int)) - 8)) Tryd.underlying3 Tryd.underlying33 rfl (wu64 (by omega) (by omega)) ?_)
    have hm24 := emod_b (IntKind.wrap .u64 at_) ((8 * ((makeS f).length : Int)) - 8) (by omega)
    refine s_op (o_rem (a := IntKind.wrap .u64 at_) (b := (8 * ((makeS f).length : Int)) - 8) (c := (IntKind.wrap .u64 at_) % ((8 * ((makeS f).length : Int)) - 8)) rfl rfl (by omega) ((Int.tmod_eq_emod_of_nonneg (by first | exact Int.natCast_nonneg _ | omega))) ?_)
    refine s_op (o_conv (c := ((IntKind.wrap .u64 at_) % ((8 * ((makeS f).length : Int)) - 8))) Tryd.underlying33 Tryd.underlying3 rfl (w64 (by omega) (by omega)) ?_)
    refine s_op (o_add (a := 8) (b := (IntKind.wrap .u64 at_) % ((8 * ((makeS f).length : Int)) - 8)) rfl rfl (w64 (by omega) (by omega)) ?_)
    refine s_op (o_move (v := (.int .u32 (bv.toNat : Int))) rfl ?_)
    obtain ⟨a27, ha28⟩ : ∃ n_ : Nat, 8 + ((IntKind.wrap .u64 at_) % ((8 * ((makeS f).length : Int)) - 8)) = (n_ : Int) := ⟨(8 + ((IntKind.wrap .u64 at_) % ((8 * ((makeS f).length : Int)) - 8))).toNat, by omega⟩
    refine s_op (o_callf (vs := #[S (makeS f), .int .i64 (a27 : Int), (.int .u32 (bv.toNat : Int))]) ca19 rfl (args3 rfl (by rw [← ha28]; exact rfl) rfl) (turned_c hH7.all (makeS f) (by omega) a27 (by omega) bv) ?_)
    rintro _ w31 ⟨t25, rfl, hw26, hX29⟩
    refine ⟨_, rfl, ?_⟩
    have hH30 := hX29.of_all
    refine s_op (o_assign (v := (S t25)) rfl ?_)
    refine s_nil ?_
    refine t_norm (hK22 _ _ ?_)
    refine wp_seq_k fun K32 hK32 => ?_
    refine c_region ?_
    refine s_op (o_move (v := (S t25)) rfl ?_)
    refine s_op (o_callf (vs := #[(S t25)]) ca24 rfl (args1 rfl) (fopen_c hH30.all (hg.mono (seg_sub 1 rfl)) t25 (by rw [hw26.1]; omega)) ?_)
    rintro _ w35 ⟨rfl, hX33⟩
    refine ⟨_, rfl, ?_⟩
    have hH34 := hX33.of_all
    refine s_op (o_move (v := (.tuple #[(.agg #[(.int .i64 ((oF t25).ep)), (.int .i64 ((oF t25).pl)), (.int .i64 ((oF t25).gsn)), (S ((oF t25).data))]), (.int .i64 (oN t25)), (.bool (opensB t25))])) rfl ?_)
    refine s_op (o_extract (v := (.agg #[(.int .i64 ((oF t25).ep)), (.int .i64 ((oF t25).pl)), (.int .i64 ((oF t25).gsn)), (S ((oF t25).data))])) rfl rfl ?_)
    refine s_op (o_extract (v := (.int .i64 (oN t25))) rfl rfl ?_)
    refine s_op (o_extract (v := (.bool (opensB t25))) rfl rfl ?_)
    refine s_op (o_alloc (cs := #[(.int .i64 0), (.int .i64 0), (.int .i64 0), (S ([] : List UInt8))]) ti40 rfl hH34 fun b36 w37 hH38 => ?_)
    refine s_eff (o_storeN (vs := [(.int .i64 ((oF t25).ep)), (.int .i64 ((oF t25).pl)), (.int .i64 ((oF t25).gsn)), (S ((oF t25).data))]) (c' := #[(.int .i64 ((oF t25).ep)), (.int .i64 ((oF t25).pl)), (.int .i64 ((oF t25).gsn)), (S ((oF t25).data))]) ti40 rfl rfl rfl rfl (by intro u hu; simp only [List.mem_cons, List.not_mem_nil, or_false] at hu; rcases hu with rfl | rfl | rfl | rfl <;> first | rfl) (by simp) (by kernel_rfl) (hH38.front 0 rfl) fun w39 hH40 => ?_)
    refine s_op (o_assign (v := (.int .i64 (oN t25))) rfl ?_)
    refine s_op (o_assign (v := (.bool (opensB t25))) rfl ?_)
    refine s_nil ?_
    refine t_norm (hK32 _ _ ?_)
    refine wp_seq_k fun K41 hK41 => ?_
    refine c_region ?_
    refine s_op (o_move (v := (S t25)) rfl ?_)
    refine s_op (o_move (v := (S (makeS f))) rfl ?_)
    refine s_op (o_seql (a := t25) (b := (makeS f)) rfl rfl ?_)
    refine s_op (o_move (v := (.bool (opensB t25))) rfl ?_)
    refine s_op (o_eqlb Tryd.underlying4 rfl rfl ?_)
    refine s_op (o_move (v := (.bool ((decide (t25 = (makeS f))) == (opensB t25)))) rfl ?_)
    rcases Bool.eq_false_or_eq_true ((decide (t25 = (makeS f))) == (opensB t25)) with h42 | h42
    · -- (decide (t25 = (makeS f))) == (opensB t25)
      refine s_on 51 rfl (congrArg Value.bool h42) (o_move (v := (.bool (opensB t25))) rfl ?_)
      refine s_on 51 rfl (congrArg Value.bool h42) (o_not rfl ?_)
      refine s_on 51 rfl (congrArg Value.bool h42) (o_move (v := (.bool (!(opensB t25)))) rfl ?_)
      rcases Bool.eq_false_or_eq_true (!(opensB t25)) with h43 | h43
      · -- !(opensB t25)
        refine s_off (b' := true) 54 rfl (congrArg Value.bool h43) rfl ?_
        refine s_off (b' := true) 54 rfl (congrArg Value.bool h43) rfl ?_
        refine s_off (b' := true) 54 rfl (congrArg Value.bool h43) rfl ?_
        refine s_off (b' := true) 54 rfl (congrArg Value.bool h43) rfl ?_
        refine s_off (b' := true) 54 rfl (congrArg Value.bool h43) rfl ?_
        refine s_offu 59 rfl rfl ?_
        refine s_offu 59 rfl rfl ?_
        refine s_offu 59 rfl rfl ?_
        refine s_off (b' := true) 54 rfl (congrArg Value.bool h43) rfl ?_
        refine s_on 51 rfl (congrArg Value.bool h42) (o_pick_t (u := (.bool true)) ((rfl : _ = _).trans (congrArg Value.bool h43)) rfl ?_)
        refine s_op (o_pick_t (u := (.bool true)) ((rfl : _ = _).trans (congrArg Value.bool h42)) rfl ?_)
        refine s_op (o_move (v := (.bool true)) rfl ?_)
        refine s_on 66 rfl rfl (o_callf (vs := #[]) ca23 rfl (args0) (awake3_c hH40.all (hg.mono (seg_sub 2 rfl))) ?_)
        rintro _ w46 ⟨rfl, hX44⟩
        refine ⟨_, rfl, ?_⟩
        have hH45 := hX44.of_all
        refine s_op (o_pick_t (u := (.bool true)) rfl rfl ?_)
        refine s_op (o_assign (v := (.bool true)) rfl ?_)
        refine s_nil ?_
        refine t_norm (hK41 _ _ ?_)
        refine wp_ret ?_
        refine c_ret1 Tryd.results8  (v := (.bool true)) rfl ?_
        have hH47 : Has E w46 [R] := (hH45.front 2 rfl).first 1 rfl
        exact ⟨rfl, hH47⟩
      · -- not: !(opensB t25)
        have hk := turned_ok hr hw26 (by omega) (not_f h43)
        refine s_on 54 rfl (congrArg Value.bool h43) (o_move (v := (.int .i64 (oN t25))) rfl ?_)
        refine s_on 54 rfl (congrArg Value.bool h43) (o_move (v := (S (makeS f))) rfl ?_)
        refine s_on 54 rfl (congrArg Value.bool h43) (o_slen Tryd.underlying9 rfl ?_)
        refine s_on 54 rfl (congrArg Value.bool h43) (o_eql (a := (oN t25)) (b := ((makeS f).length : Int)) rfl rfl ?_)
        refine s_on 54 rfl (congrArg Value.bool h43) (o_move (v := (.bool (decide ((oN t25) = ((makeS f).length : Int))))) rfl ?_)
        by_cases h48 : (oN t25) = ((makeS f).length : Int)
        · -- (oN t25) = ((makeS f).length : Int)
          refine s_on 59 rfl (congrArg Value.bool (decide_eq_true h48)) (o_loadN (cs := [(.int .i64 ((oF t25).ep)), (.int .i64 ((oF t25).pl)), (.int .i64 ((oF t25).gsn)), (S ((oF t25).data))]) Tryd.underlying40 rfl ti40 rfl hH40 (seg_sub 0 rfl) (CellsAt.one rfl) ?_)
          refine s_on 59 rfl (congrArg Value.bool (decide_eq_true h48)) (o_loadN (cs := [(.int .i64 f.ep), (.int .i64 f.pl), (.int .i64 f.gsn), (S f.data)]) Tryd.underlying43 rfl ti43 rfl hH40 (seg_sub 1 rfl) (CellsAt.one rfl) ?_)
          refine s_on 59 rfl (congrArg Value.bool (decide_eq_true h48)) (o_eqFr (a := (oF t25)) (b := f) (by decide) rfl rfl ?_)
          refine s_on 54 rfl (congrArg Value.bool h43) (o_pick_t (u := (.bool (frEq (oF t25) f))) ((rfl : _ = _).trans (congrArg Value.bool (decide_eq_true h48))) rfl ?_)
          refine s_on 51 rfl (congrArg Value.bool h42) (o_pick_f (u := (.bool (frEq (oF t25) f))) ((rfl : _ = _).trans (congrArg Value.bool h43)) rfl ?_)
          refine s_op (o_pick_t (u := (.bool (frEq (oF t25) f))) ((rfl : _ = _).trans (congrArg Value.bool h42)) rfl ?_)
          refine s_op (o_move (v := (.bool (frEq (oF t25) f))) rfl ?_)
          rcases Bool.eq_false_or_eq_true (frEq (oF t25) f) with h49 | h49
          · -- (frEq (oF t25) f)
            refine s_on 66 rfl (congrArg Value.bool h49) (o_callf (vs := #[]) ca23 rfl (args0) (awake3_c hH40.all (hg.mono (seg_sub 2 rfl))) ?_)
            rintro _ w52 ⟨rfl, hX50⟩
            refine ⟨_, rfl, ?_⟩
            have hH51 := hX50.of_all
            refine s_op (o_pick_t (u := (.bool true)) ((rfl : _ = _).trans (congrArg Value.bool h49)) rfl ?_)
            refine s_op (o_assign (v := (.bool true)) rfl ?_)
            refine s_nil ?_
            refine t_norm (hK41 _ _ ?_)
            refine wp_ret ?_
            refine c_ret1 Tryd.results8  (v := (.bool true)) rfl ?_
            have hH53 : Has E w52 [R] := (hH51.front 2 rfl).first 1 rfl
            exact ⟨rfl, hH53⟩
          · -- not: (frEq (oF t25) f)
            rw [hk.2] at h49
            exact absurd (frEq_refl _) (by rw [h49]; decide)
        · -- not: (oN t25) = ((makeS f).length : Int)
          exact absurd hk.1 h48
    · -- not: (decide (t25 = (makeS f))) == (opensB t25)
      rw [turned_law hr hw26 (by omega)] at h42
      simp at h42
end Go.Q
