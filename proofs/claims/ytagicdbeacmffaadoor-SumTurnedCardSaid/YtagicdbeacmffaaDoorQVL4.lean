/-
  Parts of a walk: what functions of the program compute, each told by a theorem.
-/
import Derived.Test.YtagicdbeacmffaaDoorQV4
set_option linter.unusedVariables false
set_option linter.unusedSimpArgs false
namespace Go.Q
open Go.Proofs
set_option linter.unusedVariables false
set_option maxRecDepth 100000
attribute [local irreducible] wpList OK Code.wp
set_option maxHeartbeats 4000000 in
theorem SumTurned_c {E w : World} {R : List Hp} (hH : Has E w [R]) (hg : CellsAt R 0 0 nibV) (t : List UInt8) (htl : t.length ≤ 9223372036854775807) (at_ : Int) (bv : BitVec 32) :
    Calls Tryd.prog 4 #[(S t), (.int .i64 at_), (.int .u32 (bv.toNat : Int))] w fun e w' => e = .returned (.bool true) ∧ Has E w' [R] := by
  refine c_enter (args := [(S t), (.int .i64 at_), (.int .u32 (bv.toNat : Int))]) Tryd.func4 rfl Tryd.ntmps4 (by simp) ?_
  refine wp_seq_k fun K1 hK1 => ?_
  refine c_region ?_
  refine s_op (o_assign (v := (.bool false)) rfl ?_)
  refine s_nil ?_
  refine t_norm (hK1 _ _ ?_)
  refine wp_seq_k fun K2 hK2 => ?_
  refine wp_seq_k fun K3 hK3 => ?_
  refine c_region ?_
  refine s_op (o_move (v := (S t)) rfl ?_)
  refine s_op (o_slen Tryd.underlying9 rfl ?_)
  refine s_op (o_eql (a := (t.length : Int)) (b := 0) rfl rfl ?_)
  refine s_op (o_move (v := (.bool (decide ((t.length : Int) = 0)))) rfl ?_)
  by_cases h4 : (t.length : Int) = 0
  · -- (t.length : Int) = 0
    refine s_off (b' := true) 15 rfl (congrArg Value.bool (decide_eq_true h4)) rfl ?_
    refine s_off (b' := true) 15 rfl (congrArg Value.bool (decide_eq_true h4)) rfl ?_
    refine s_off (b' := true) 15 rfl (congrArg Value.bool (decide_eq_true h4)) rfl ?_
    refine s_op (o_pick_t (u := (.bool true)) ((rfl : _ = _).trans (congrArg Value.bool (decide_eq_true h4))) rfl ?_)
    refine s_nil ?_
    refine t_norm (hK3 _ _ ?_)
    refine c_true rfl rfl ?_
    refine wp_seq_k fun K5 hK5 => ?_
    refine c_region ?_
    refine s_op (o_callf (vs := #[]) ca13 rfl (args0) (awake2_c hH.all (hg.mono (seg_sub 0 rfl))) ?_)
    rintro _ w8 ⟨rfl, hX6⟩
    refine ⟨_, rfl, ?_⟩
    have hH7 := hX6.of_all
    refine s_op (o_assign (v := (.bool true)) rfl ?_)
    refine s_nil ?_
    refine t_norm (hK5 _ _ ?_)
    refine wp_ret ?_
    refine t_ret (c_ret1 Tryd.results4 (v := (.bool true)) rfl ?_)
    exact ⟨rfl, hH7⟩
  · -- not: (t.length : Int) = 0
    refine s_on 15 rfl (congrArg Value.bool (decide_eq_false h4)) (o_move (v := (S t)) rfl ?_)
    refine s_on 15 rfl (congrArg Value.bool (decide_eq_false h4)) (o_slen Tryd.underlying9 rfl ?_)
    refine s_on 15 rfl (congrArg Value.bool (decide_eq_false h4)) (o_gtr (a := (t.length : Int)) (b := 1500) rfl rfl ?_)
    refine s_op (o_pick_f (u := (.bool (decide (1500 < (t.length : Int))))) ((rfl : _ = _).trans (congrArg Value.bool (decide_eq_false h4))) rfl ?_)
    refine s_nil ?_
    refine t_norm (hK3 _ _ ?_)
    refine c_cond rfl (fun h9 => ?_) (fun h9 => ?_)
    · -- 1500 < (t.length : Int)
      refine wp_seq_k fun K10 hK10 => ?_
      refine c_region ?_
      refine s_op (o_callf (vs := #[]) ca13 rfl (args0) (awake2_c hH.all (hg.mono (seg_sub 0 rfl))) ?_)
      rintro _ w13 ⟨rfl, hX11⟩
      refine ⟨_, rfl, ?_⟩
      have hH12 := hX11.of_all
      refine s_op (o_assign (v := (.bool true)) rfl ?_)
      refine s_nil ?_
      refine t_norm (hK10 _ _ ?_)
      refine wp_ret ?_
      refine t_ret (c_ret1 Tryd.results4 (v := (.bool true)) rfl ?_)
      exact ⟨rfl, hH12⟩
    · -- not: 1500 < (t.length : Int)
      refine wp_skip ?_
      refine t_norm (hK2 _ _ ?_)
      refine wp_seq_k fun K14 hK14 => ?_
      refine c_region ?_
      refine s_op (o_move (v := (S t)) rfl ?_)
      refine s_op (o_move (v := (.int .i64 at_)) rfl ?_)
      have hw15 := wrap_u64 at_
      refine s_op (o_conv (c := (IntKind.wrap .u64 at_)) Tryd.underlying3 Tryd.underlying33 rfl rfl ?_)
      refine s_op (o_move (v := (S t)) rfl ?_)
      refine s_op (o_slen Tryd.underlying9 rfl ?_)
      refine s_op (o_mul (a := 8) (b := (t.length : Int)) rfl rfl (w64 (by omega) (by omega)) ?_)
      refine s_op (o_conv (c := (8 * (t.length : Int))) Tryd.underlying3 Tryd.underlying33 rfl (wu64 (by omega) (by omega)) ?_)
      have hm16 := emod_b (IntKind.wrap .u64 at_) (8 * (t.length : Int)) (by omega)
      refine s_op (o_rem (a := IntKind.wrap .u64 at_) (b := 8 * (t.length : Int)) (c := (IntKind.wrap .u64 at_) % (8 * (t.length : Int))) rfl rfl (by omega) ((Int.tmod_eq_emod_of_nonneg (by first | exact Int.natCast_nonneg _ | omega))) ?_)
      refine s_op (o_conv (c := ((IntKind.wrap .u64 at_) % (8 * (t.length : Int)))) Tryd.underlying33 Tryd.underlying3 rfl (w64 (by omega) (by omega)) ?_)
      refine s_op (o_move (v := (.int .u32 (bv.toNat : Int))) rfl ?_)
      obtain ⟨a19, ha20⟩ : ∃ n_ : Nat, (IntKind.wrap .u64 at_) % (8 * (t.length : Int)) = (n_ : Int) := ⟨((IntKind.wrap .u64 at_) % (8 * (t.length : Int))).toNat, by omega⟩
      refine s_op (o_callf (vs := #[S t, .int .i64 (a19 : Int), (.int .u32 (bv.toNat : Int))]) ca19 rfl (args3 rfl (by rw [← ha20]; exact rfl) rfl) (turned_c hH.all t (by omega) a19 (by omega) bv) ?_)
      rintro _ w23 ⟨t17, rfl, hw18, hX21⟩
      refine ⟨_, rfl, ?_⟩
      have hH22 := hX21.of_all
      refine s_op (o_assign (v := (S t17)) rfl ?_)
      refine s_nil ?_
      refine t_norm (hK14 _ _ ?_)
      refine wp_seq_k fun K24 hK24 => ?_
      refine c_region ?_
      refine s_op (o_move (v := (S t)) rfl ?_)
      refine s_op (o_buildSlice (ps := #[(0, (S t))]) (cells := #[(S t)]) Tryd.underlying22 ti9 (by decide) (parts1 rfl) (by kernel_rfl) hH22 fun b25 w26 hH27 => ?_)
      refine s_op (o_callf (vs := #[(.slice (some ⟨b25, 0, none⟩) 1 1)]) ca18 rfl (args1 rfl) (seal_c hH27.all (hg.mono (seg_sub 1 rfl)) ((sl_lit (f := sV) (l := [t]) rfl rfl (by simp)).mono (seg_sub 0 rfl)) (by simp) (by rw [flat1]; omega)) ?_)
      rintro _ w30 ⟨rfl, hX28⟩
      refine ⟨_, rfl, ?_⟩
      have hH29 := hX28.of_all
      refine s_op (o_assign (v := (S (sealS [t].flatten))) rfl ?_)
      refine s_nil ?_
      refine t_norm (hK24 _ _ ?_)
      refine wp_seq_k fun K31 hK31 => ?_
      refine c_region ?_
      refine s_op (o_move (v := (S (sealS [t].flatten))) rfl ?_)
      refine s_op (o_move (v := (.int .i64 at_)) rfl ?_)
      have hw32 := wrap_u64 at_
      refine s_op (o_conv (c := (IntKind.wrap .u64 at_)) Tryd.underlying3 Tryd.underlying33 rfl rfl ?_)
      refine s_op (o_move (v := (S t)) rfl ?_)
      refine s_op (o_slen Tryd.underlying9 rfl ?_)
      refine s_op (o_mul (a := 8) (b := (t.length : Int)) rfl rfl (w64 (by omega) (by omega)) ?_)
      refine s_op (o_add (a := 8 * (t.length : Int)) (b := 32) rfl rfl (w64 (by omega) (by omega)) ?_)
      refine s_op (o_conv (c := ((8 * (t.length : Int)) + 32)) Tryd.underlying3 Tryd.underlying33 rfl (wu64 (by omega) (by omega)) ?_)
      have hm33 := emod_b (IntKind.wrap .u64 at_) ((8 * (t.length : Int)) + 32) (by omega)
      refine s_op (o_rem (a := IntKind.wrap .u64 at_) (b := (8 * (t.length : Int)) + 32) (c := (IntKind.wrap .u64 at_) % ((8 * (t.length : Int)) + 32)) rfl rfl (by omega) ((Int.tmod_eq_emod_of_nonneg (by first | exact Int.natCast_nonneg _ | omega))) ?_)
      refine s_op (o_conv (c := ((IntKind.wrap .u64 at_) % ((8 * (t.length : Int)) + 32))) Tryd.underlying33 Tryd.underlying3 rfl (w64 (by omega) (by omega)) ?_)
      refine s_op (o_move (v := (.int .u32 (bv.toNat : Int))) rfl ?_)
      obtain ⟨a36, ha37⟩ : ∃ n_ : Nat, (IntKind.wrap .u64 at_) % ((8 * (t.length : Int)) + 32) = (n_ : Int) := ⟨((IntKind.wrap .u64 at_) % ((8 * (t.length : Int)) + 32)).toNat, by omega⟩
      refine s_op (o_callf (vs := #[S (sealS [t].flatten), .int .i64 (a36 : Int), (.int .u32 (bv.toNat : Int))]) ca19 rfl (args3 rfl (by rw [← ha37]; exact rfl) rfl) (turned_c hH29.all (sealS [t].flatten) (by rw [sealS, List.length_append, laidS_len, flat1]; omega) a36 (by omega) bv) ?_)
      rintro _ w40 ⟨t34, rfl, hw35, hX38⟩
      refine ⟨_, rfl, ?_⟩
      have hH39 := hX38.of_all
      refine s_op (o_assign (v := (S t34)) rfl ?_)
      refine s_nil ?_
      refine t_norm (hK31 _ _ ?_)
      refine wp_seq_k fun K41 hK41 => ?_
      refine c_region ?_
      refine s_op (o_move (v := (S t34)) rfl ?_)
      refine s_op (o_callf (vs := #[(S t34)]) ca20 rfl (args1 rfl) (open_c hH39.all (hg.mono (seg_sub 1 rfl)) t34 (by rw [hw35.1, sealS, List.length_append, laidS_len, flat1]; omega)) ?_)
      rintro _ w44 ⟨rfl, hX42⟩
      refine ⟨_, rfl, ?_⟩
      have hH43 := hX42.of_all
      refine s_op (o_move (v := (.tuple #[(S ((openS t34).1)), (.bool ((openS t34).2))])) rfl ?_)
      refine s_op (o_extract (v := (S ((openS t34).1))) rfl rfl ?_)
      refine s_op (o_extract (v := (.bool ((openS t34).2))) rfl rfl ?_)
      refine s_op (o_assign (v := (S ((openS t34).1))) rfl ?_)
      refine s_op (o_assign (v := (.bool ((openS t34).2))) rfl ?_)
      refine s_nil ?_
      refine t_norm (hK41 _ _ ?_)
      refine wp_seq_k fun K45 hK45 => ?_
      refine c_region ?_
      refine s_op (o_move (v := (S t17)) rfl ?_)
      refine s_op (o_move (v := (S t)) rfl ?_)
      refine s_op (o_seql (a := t17) (b := t) rfl rfl ?_)
      refine s_op (o_move (v := (S t17)) rfl ?_)
      refine s_op (o_buildSlice (ps := #[(0, (S t17))]) (cells := #[(S t17)]) Tryd.underlying22 ti9 (by decide) (parts1 rfl) (by kernel_rfl) hH43 fun b46 w47 hH48 => ?_)
      refine s_op (o_callf (vs := #[(.slice (some ⟨b46, 0, none⟩) 1 1)]) ca14 rfl (args1 rfl) (of2_c hH48.all (hg.mono (seg_sub 2 rfl)) ((sl_lit (f := sV) (l := [t17]) rfl rfl (by simp)).mono (seg_sub 0 rfl)) (fun x hx => by rw [List.mem_singleton.1 hx]; exact Nat.le_trans (by rw [hw18.1]; omega) (by decide : (1000000 : Nat) ≤ 9223372036854775807))) ?_)
      rintro _ w51 ⟨rfl, hX49⟩
      refine ⟨_, rfl, ?_⟩
      have hH50 := hX49.of_all
      refine s_op (o_move (v := (S t)) rfl ?_)
      refine s_op (o_buildSlice (ps := #[(0, (S t))]) (cells := #[(S t)]) Tryd.underlying22 ti9 (by decide) (parts1 rfl) (by kernel_rfl) hH50 fun b52 w53 hH54 => ?_)
      refine s_op (o_callf (vs := #[(.slice (some ⟨b52, 0, none⟩) 1 1)]) ca14 rfl (args1 rfl) (of2_c hH54.all (hg.mono (seg_sub 3 rfl)) ((sl_lit (f := sV) (l := [t]) rfl rfl (by simp)).mono (seg_sub 0 rfl)) (fun x hx => by rw [List.mem_singleton.1 hx]; exact Nat.le_trans (by omega) (by decide : (1000000 : Nat) ≤ 9223372036854775807))) ?_)
      rintro _ w57 ⟨rfl, hX55⟩
      refine ⟨_, rfl, ?_⟩
      have hH56 := hX55.of_all
      refine s_op (o_eql (a := ((crcS [t17].flatten).toNat : Int)) (b := ((crcS [t].flatten).toNat : Int)) rfl rfl ?_)
      refine s_op (o_eqlb Tryd.underlying4 rfl rfl ?_)
      refine s_op (o_move (v := (.bool ((decide (t17 = t)) == (decide (((crcS [t17].flatten).toNat : Int) = ((crcS [t].flatten).toNat : Int)))))) rfl ?_)
      rcases Bool.eq_false_or_eq_true ((decide (t17 = t)) == (decide (((crcS [t17].flatten).toNat : Int) = ((crcS [t].flatten).toNat : Int)))) with h58 | h58
      · -- (decide (t17 = t)) == (decide (((crcS [t17].flatten).toNat : Int) = ((crcS [t].flatten).toNat : Int)))
        refine s_on 63 rfl (congrArg Value.bool h58) (o_move (v := (.bool ((openS t34).2))) rfl ?_)
        refine s_on 63 rfl (congrArg Value.bool h58) (o_move (v := (S t34)) rfl ?_)
        refine s_on 63 rfl (congrArg Value.bool h58) (o_move (v := (S (sealS [t].flatten))) rfl ?_)
        refine s_on 63 rfl (congrArg Value.bool h58) (o_seql (a := t34) (b := (sealS [t].flatten)) rfl rfl ?_)
        refine s_on 63 rfl (congrArg Value.bool h58) (o_eqlb Tryd.underlying4 rfl rfl ?_)
        refine s_op (o_pick_t (u := (.bool (((openS t34).2) == (decide (t34 = (sealS [t].flatten)))))) ((rfl : _ = _).trans (congrArg Value.bool h58)) rfl ?_)
        refine s_op (o_move (v := (.bool (((openS t34).2) == (decide (t34 = (sealS [t].flatten)))))) rfl ?_)
        rcases Bool.eq_false_or_eq_true (((openS t34).2) == (decide (t34 = (sealS [t].flatten)))) with h59 | h59
        · -- ((openS t34).2) == (decide (t34 = (sealS [t].flatten)))
          refine s_on 70 rfl (congrArg Value.bool h59) (o_callf (vs := #[]) ca13 rfl (args0) (awake2_c hH56.all (hg.mono (seg_sub 3 rfl))) ?_)
          rintro _ w62 ⟨rfl, hX60⟩
          refine ⟨_, rfl, ?_⟩
          have hH61 := hX60.of_all
          refine s_op (o_pick_t (u := (.bool true)) ((rfl : _ = _).trans (congrArg Value.bool h59)) rfl ?_)
          refine s_op (o_assign (v := (.bool true)) rfl ?_)
          refine s_nil ?_
          refine t_norm (hK45 _ _ ?_)
          refine wp_ret ?_
          refine c_ret1 Tryd.results4 (v := (.bool true)) rfl ?_
          have hH63 : Has E w62 [R] := (hH61.front 3 rfl).first 1 rfl
          exact ⟨rfl, hH63⟩
        · -- not: ((openS t34).2) == (decide (t34 = (sealS [t].flatten)))
          rw [open_burst (by rw [openS_seal]) (by rw [sealS, List.length_append, laidS_len]; omega) hw35.1 hw35.2] at h59
          simp at h59
      · -- not: (decide (t17 = t)) == (decide (((crcS [t17].flatten).toNat : Int) = ((crcS [t].flatten).toNat : Int)))
        rw [flat1, flat1, sum_burst hw18.1 hw18.2] at h58
        simp at h58
end Go.Q
