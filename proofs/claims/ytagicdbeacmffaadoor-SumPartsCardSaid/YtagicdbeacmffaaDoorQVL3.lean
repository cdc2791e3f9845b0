/-
  Parts of a walk: what functions of the program compute, each told by a theorem.
-/
import Derived.Test.YtagicdbeacmffaaDoorQV3
set_option linter.unusedVariables false
set_option linter.unusedSimpArgs false
namespace Go.Q
open Go.Proofs
set_option linter.unusedVariables false
set_option maxRecDepth 100000
attribute [local irreducible] wpList OK Code.wp
set_option maxHeartbeats 4000000 in
theorem SumParts_c {E w : World} {R : List Hp} (hH : Has E w [R]) (hg : CellsAt R 0 0 nibV) (t : List UInt8) (htl : t.length ≤ 9223372036854775807) {v : Value} {cl : List Int} (hv : Ints R v cl) :
    Calls Tryd.prog 6 #[(S t), v] w fun e w' => e = .returned (.bool true) ∧ Has E w' [R] := by
  have hn_ := hv.le
  refine c_enter (args := [(S t), v]) Tryd.func6 rfl Tryd.ntmps6 (by simp) ?_
  refine wp_seq_k fun K1 hK1 => ?_
  refine c_region ?_
  refine s_op (o_assign (v := (.bool false)) rfl ?_)
  refine s_nil ?_
  refine t_norm (hK1 _ _ ?_)
  refine wp_seq_k fun K2 hK2 => ?_
  refine wp_seq_k fun K3 hK3 => ?_
  refine c_region ?_
  refine s_op (o_move (v := (S t)) rfl ?_)
  refine s_op (o_slen Tryd.underlying9 rfl ?_)
  refine s_op (o_gtr (a := (t.length : Int)) (b := 2000) rfl rfl ?_)
  refine s_op (o_move (v := (.bool (decide (2000 < (t.length : Int))))) rfl ?_)
  by_cases h4 : 2000 < (t.length : Int)
  · -- 2000 < (t.length : Int)
    refine s_off (b' := true) 12 rfl (congrArg Value.bool (decide_eq_true h4)) rfl ?_
    refine s_off (b' := true) 12 rfl (congrArg Value.bool (decide_eq_true h4)) rfl ?_
    refine s_off (b' := true) 12 rfl (congrArg Value.bool (decide_eq_true h4)) rfl ?_
    refine s_op (o_pick_t (u := (.bool true)) ((rfl : _ = _).trans (congrArg Value.bool (decide_eq_true h4))) rfl ?_)
    refine s_nil ?_
    refine t_norm (hK3 _ _ ?_)
    refine c_true rfl rfl ?_
    refine wp_seq_k fun K5 hK5 => ?_
    refine c_region ?_
    refine s_op (o_callf (vs := #[]) ca13 rfl (args0) (awake2_c hH.all (hg.mono (seg_sub 0 rfl))) ?_)
    rintro _ w8 ⟨rfl, hX6⟩
    refine ⟨_, rfl, ?_⟩
    have hH7 := hX6.of_all
    refine s_op (o_assign (v := (.bool true)) rfl ?_)
    refine s_nil ?_
    refine t_norm (hK5 _ _ ?_)
    refine wp_ret ?_
    refine t_ret (c_ret1 Tryd.results6 (v := (.bool true)) rfl ?_)
    exact ⟨rfl, hH7⟩
  · -- not: 2000 < (t.length : Int)
    refine s_on 12 rfl (congrArg Value.bool (decide_eq_false h4)) (o_move (v := v) rfl ?_)
    refine s_on 12 rfl (congrArg Value.bool (decide_eq_false h4)) (o_lenS Tryd.underlying37 rfl hv ?_)
    refine s_on 12 rfl (congrArg Value.bool (decide_eq_false h4)) (o_gtr (a := ((cl.length : Nat) : Int)) (b := 10) rfl rfl ?_)
    refine s_op (o_pick_f (u := (.bool (decide (10 < ((cl.length : Nat) : Int))))) ((rfl : _ = _).trans (congrArg Value.bool (decide_eq_false h4))) rfl ?_)
    refine s_nil ?_
    refine t_norm (hK3 _ _ ?_)
    refine c_cond rfl (fun h9 => ?_) (fun h9 => ?_)
    · -- 10 < ((cl.length : Nat) : Int)
      refine wp_seq_k fun K10 hK10 => ?_
      refine c_region ?_
      refine s_op (o_callf (vs := #[]) ca13 rfl (args0) (awake2_c hH.all (hg.mono (seg_sub 0 rfl))) ?_)
      rintro _ w13 ⟨rfl, hX11⟩
      refine ⟨_, rfl, ?_⟩
      have hH12 := hX11.of_all
      refine s_op (o_assign (v := (.bool true)) rfl ?_)
      refine s_nil ?_
      refine t_norm (hK10 _ _ ?_)
      refine wp_ret ?_
      refine t_ret (c_ret1 Tryd.results6 (v := (.bool true)) rfl ?_)
      exact ⟨rfl, hH12⟩
    · -- not: 10 < ((cl.length : Nat) : Int)
      refine wp_skip ?_
      refine t_norm (hK2 _ _ ?_)
      refine wp_seq_k fun K14 hK14 => ?_
      refine c_region ?_
      refine s_op (o_assign (v := (.slice none 0 0)) rfl ?_)
      refine s_nil ?_
      refine t_norm (hK14 _ _ ?_)
      refine wp_seq_k fun K15 hK15 => ?_
      refine c_region ?_
      refine s_op (o_assign (v := (.int .i64 0)) rfl ?_)
      refine s_nil ?_
      refine t_norm (hK15 _ _ ?_)
      refine wp_seq_k fun K16 hK16 => ?_
      refine wp_seq_k fun K17 hK17 => ?_
      refine c_region ?_
      refine s_op (o_assign (v := (.int .i64 0)) rfl ?_)
      refine s_nil ?_
      refine t_norm (hK17 _ _ ?_)
      refine wp_block ?_
      let I19 : Nat → (Nat → Value) → World → Prop := fun n__ r__ w__ => ∃ (k : Nat) (at_ : Int) (va : Value) (ha : List Hp) (acc : List (List UInt8)), n__ = cl.length - k ∧ Has E w__ [ha, R] ∧ (k ≤ cl.length) ∧ (0 ≤ at_ ∧ at_ ≤ (t.length : Int)) ∧ (Own 9 1 va acc.length (acc.map sV) ha) ∧ (acc.flatten = t.take at_.toNat) ∧ (acc.length ≤ k) ∧ r__ 0 = (S t) ∧ r__ 1 = v ∧ r__ 4 = (.bool false) ∧ r__ 5 = va ∧ r__ 6 = (.int .i64 at_) ∧ r__ 7 = (.int .i64 (k : Int)) ∧ r__ 16 = (.bool (decide (10 < ((cl.length : Nat) : Int))))
      have hH20 : Has E w [[], R] := (Has.nil hH).first 2 rfl
      refine c_loop I19 _ ⟨0, 0, (.slice none 0 0), [], [], rfl, hH20, Nat.zero_le _, (by omega), Own.nil 9 1, rfl, (by simp), rfl, rfl, rfl, rfl, rfl, rfl, rfl⟩ ?_
      rintro n_ r23 w21 ⟨k, at_, va, ha, acc, rfl, hH22, hk, hat, hoa, hfl, hac, e18_0, e18_1, e18_4, e18_5, e18_6, e18_7, e18_16⟩
      refine wp_seq_k fun K24 hK24 => ?_
      refine wp_seq_k fun K25 hK25 => ?_
      refine c_region ?_
      refine s_op (o_move (v := (.int .i64 (k : Int))) e18_7 ?_)
      refine s_op (o_move (v := v) e18_1 ?_)
      refine s_op (o_lenS Tryd.underlying37 rfl hv ?_)
      refine s_op (o_lss (a := (k : Int)) (b := ((cl.length : Nat) : Int)) rfl rfl ?_)
      refine s_nil ?_
      refine t_norm (hK25 _ _ ?_)
      refine c_cond rfl (fun h26 => ?_) (fun h26 => ?_)
      · -- (k : Int) < ((cl.length : Nat) : Int)
        refine wp_skip ?_
        refine t_norm (hK24 _ _ ?_)
        refine wp_seq_k fun K27 hK27 => ?_
        refine wp_block ?_
        refine wp_seq_k fun K28 hK28 => ?_
        refine c_region ?_
        refine s_op (o_move (v := (.int .i64 at_)) e18_6 ?_)
        refine s_op (o_move (v := v) e18_1 ?_)
        refine s_op (o_move (v := (.int .i64 (k : Int))) e18_7 ?_)
        obtain ⟨x32, hx33⟩ : ∃ x_, cl[((k : Int)).toNat]? = some x_ := get_some (by omega)
        refine s_op (o_index1 Tryd.underlying37 ti3 rfl hv rfl (by omega) hx33 fun b29 o30 hc31 => ?_)
        refine s_op (o_load1 (v := (.int .i64 x32)) Tryd.underlying3 rfl rfl hH22 (seg_sub 1 rfl) hc31 ?_)
        have hw34 := wrap_u64 x32
        refine s_op (o_conv (c := (IntKind.wrap .u64 x32)) Tryd.underlying3 Tryd.underlying33 rfl rfl ?_)
        refine s_op (o_move (v := (S t)) e18_0 ?_)
        refine s_op (o_slen Tryd.underlying9 rfl ?_)
        refine s_op (o_move (v := (.int .i64 at_)) e18_6 ?_)
        refine s_op (o_sub (a := (t.length : Int)) (b := at_) rfl rfl (w64 (by omega) (by omega)) ?_)
        refine s_op (o_add (a := (t.length : Int) - at_) (b := 1) rfl rfl (w64 (by omega) (by omega)) ?_)
        refine s_op (o_conv (c := (((t.length : Int) - at_) + 1)) Tryd.underlying3 Tryd.underlying33 rfl (wu64 (by omega) (by omega)) ?_)
        have hm35 := emod_b (IntKind.wrap .u64 x32) (((t.length : Int) - at_) + 1) (by omega)
        refine s_op (o_rem (a := IntKind.wrap .u64 x32) (b := ((t.length : Int) - at_) + 1) (c := (IntKind.wrap .u64 x32) % (((t.length : Int) - at_) + 1)) rfl rfl (by omega) ((Int.tmod_eq_emod_of_nonneg (by first | exact Int.natCast_nonneg _ | omega))) ?_)
        refine s_op (o_conv (c := ((IntKind.wrap .u64 x32) % (((t.length : Int) - at_) + 1))) Tryd.underlying33 Tryd.underlying3 rfl (w64 (by omega) (by omega)) ?_)
        refine s_op (o_add (a := at_) (b := (IntKind.wrap .u64 x32) % (((t.length : Int) - at_) + 1)) rfl rfl (w64 (by omega) (by omega)) ?_)
        refine s_op (o_assign (v := (.int .i64 (at_ + ((IntKind.wrap .u64 x32) % (((t.length : Int) - at_) + 1))))) rfl ?_)
        refine s_nil ?_
        refine t_norm (hK28 _ _ ?_)
        refine wp_seq_k fun K36 hK36 => ?_
        refine c_region ?_
        refine s_op (o_move (v := va) e18_5 ?_)
        refine s_op (o_move (v := (S t)) e18_0 ?_)
        refine s_op (o_move (v := (.int .i64 at_)) e18_6 ?_)
        refine s_op (o_move (v := (.int .i64 (at_ + ((IntKind.wrap .u64 x32) % (((t.length : Int) - at_) + 1))))) rfl ?_)
        refine s_op (o_ssl Tryd.underlying9 rfl rfl rfl (by omega) (by omega) (by omega) ?_)
        refine s_op (o_buildSlice (ps := #[(0, (S ((t.take (at_ + ((IntKind.wrap .u64 x32) % (((t.length : Int) - at_) + 1))).toNat).drop (at_).toNat)))]) (cells := #[(S ((t.take (at_ + ((IntKind.wrap .u64 x32) % (((t.length : Int) - at_) + 1))).toNat).drop (at_).toNat))]) Tryd.underlying22 ti9 (by decide) (parts1 rfl) (by kernel_rfl) hH22 fun b37 w38 hH39 => ?_)
        refine s_op (o_append Tryd.underlying22 ti9 rfl (by decide) rfl hoa rfl (sl_lit (f := sV) (l := [(t.take (at_ + ((IntKind.wrap .u64 x32) % (((t.length : Int) - at_) + 1))).toNat).drop (at_).toNat]) rfl rfl (by simp)) (hH39.front 1 rfl) (seg_sub 0 rfl) (one_sV _) (by simp; omega) (by simp; omega) fun v40 s41 w43 ho42 hH44 => ?_)
        have ho42 : Own 9 1 v40 (acc ++ [(t.take (at_ + ((IntKind.wrap .u64 x32) % (((t.length : Int) - at_) + 1))).toNat).drop (at_).toNat]).length ((acc ++ [(t.take (at_ + ((IntKind.wrap .u64 x32) % (((t.length : Int) - at_) + 1))).toNat).drop (at_).toNat]).map sV) s41 := ho42.app
        refine s_op (o_assign (v := v40) rfl ?_)
        refine s_nil ?_
        refine t_norm (hK36 _ _ ?_)
        refine c_region ?_
        refine s_op (o_move (v := (.int .i64 (at_ + ((IntKind.wrap .u64 x32) % (((t.length : Int) - at_) + 1))))) rfl ?_)
        refine s_op (o_assign (v := (.int .i64 (at_ + ((IntKind.wrap .u64 x32) % (((t.length : Int) - at_) + 1))))) rfl ?_)
        refine s_nil ?_
        refine b_norm ?_
        refine t_norm (hK27 _ _ ?_)
        refine c_region ?_
        refine s_op (o_move (v := (.int .i64 (k : Int))) e18_7 ?_)
        refine s_op (o_add (a := (k : Int)) (b := 1) rfl rfl (w64 (by omega) (by omega)) ?_)
        refine s_op (o_assign (v := (.int .i64 ((k : Int) + 1))) rfl ?_)
        refine s_nil ?_
        have hH45 : Has E w43 [s41, R] := ((hH44.front 2 rfl).front 1 rfl).first 2 rfl
        refine t_norm ⟨cl.length - (k + 1), _, rfl, ?_, ?_⟩
        · omega
        · exact ⟨(k + 1), (at_ + ((IntKind.wrap .u64 x32) % (((t.length : Int) - at_) + 1))), v40, s41, (acc ++ [(t.take (at_ + ((IntKind.wrap .u64 x32) % (((t.length : Int) - at_) + 1))).toNat).drop (at_).toNat]), rfl, hH45, (by omega), (by omega), (ho42), (by rw [List.flatten_append, hfl, List.flatten_cons, List.flatten_nil, List.append_nil]; exact take_drop_part t (by omega)), (by simp only [List.length_append, List.length_cons, List.length_nil]; omega), e18_0, e18_1, e18_4, rfl, rfl, rfl, e18_16⟩
      · -- not: (k : Int) < ((cl.length : Nat) : Int)
        refine wp_exit ?_
        refine t_exit (t_exit (x_in (?_)))
        refine t_norm (hK16 _ _ ?_)
        refine wp_seq_k fun K46 hK46 => ?_
        refine c_region ?_
        refine s_op (o_move (v := va) e18_5 ?_)
        refine s_op (o_move (v := (S t)) e18_0 ?_)
        refine s_op (o_move (v := (.int .i64 at_)) e18_6 ?_)
        refine s_op (o_ssl_l Tryd.underlying9 rfl rfl (by omega) (by omega) ?_)
        refine s_op (o_buildSlice (ps := #[(0, (S (t.drop (at_).toNat)))]) (cells := #[(S (t.drop (at_).toNat))]) Tryd.underlying22 ti9 (by decide) (parts1 rfl) (by kernel_rfl) hH22 fun b47 w48 hH49 => ?_)
        refine s_op (o_append Tryd.underlying22 ti9 rfl (by decide) rfl hoa rfl (sl_lit (f := sV) (l := [t.drop (at_).toNat]) rfl rfl (by simp)) (hH49.front 1 rfl) (seg_sub 0 rfl) (one_sV _) (by simp; omega) (by simp; omega) fun v50 s51 w53 ho52 hH54 => ?_)
        have ho52 : Own 9 1 v50 (acc ++ [t.drop (at_).toNat]).length ((acc ++ [t.drop (at_).toNat]).map sV) s51 := ho52.app
        refine s_op (o_assign (v := v50) rfl ?_)
        refine s_nil ?_
        refine t_norm (hK46 _ _ ?_)
        refine wp_seq_k fun K55 hK55 => ?_
        refine c_region ?_
        refine s_op (o_move (v := v50) rfl ?_)
        refine s_op (o_callf (vs := #[v50]) ca14 rfl (args1 rfl) (of2_c hH54.all (hg.mono (seg_sub 2 rfl)) (ho52.sl.mono (seg_sub 0 rfl)) (fun x hx => by have h := flat_le hx; rw [show (acc ++ [t.drop at_.toNat]).flatten = t from (by rw [List.flatten_append, hfl, List.flatten_cons, List.flatten_nil, List.append_nil, List.take_append_drop])] at h; omega)) ?_)
        rintro _ w58 ⟨rfl, hX56⟩
        refine ⟨_, rfl, ?_⟩
        have hH57 := hX56.of_all
        refine s_op (o_move (v := (S t)) e18_0 ?_)
        refine s_op (o_buildSlice (ps := #[(0, (S t))]) (cells := #[(S t)]) Tryd.underlying22 ti9 (by decide) (parts1 rfl) (by kernel_rfl) hH57 fun b59 w60 hH61 => ?_)
        refine s_op (o_callf (vs := #[(.slice (some ⟨b59, 0, none⟩) 1 1)]) ca14 rfl (args1 rfl) (of2_c hH61.all (hg.mono (seg_sub 3 rfl)) ((sl_lit (f := sV) (l := [t]) rfl rfl (by simp)).mono (seg_sub 0 rfl)) (fun x hx => by have h := flat_le hx; rw [flat1] at h; omega)) ?_)
        rintro _ w64 ⟨rfl, hX62⟩
        refine ⟨_, rfl, ?_⟩
        have hH63 := hX62.of_all
        refine s_op (o_eql (a := ((crcS (acc ++ [t.drop (at_).toNat]).flatten).toNat : Int)) (b := ((crcS [t].flatten).toNat : Int)) rfl rfl ?_)
        refine s_op (o_move (v := (.bool (decide (((crcS (acc ++ [t.drop (at_).toNat]).flatten).toNat : Int) = ((crcS [t].flatten).toNat : Int))))) rfl ?_)
        by_cases h65 : ((crcS (acc ++ [t.drop (at_).toNat]).flatten).toNat : Int) = ((crcS [t].flatten).toNat : Int)
        · -- ((crcS (acc ++ [t.drop (at_).toNat]).flatten).toNat : Int) = ((crcS [t].flatten).toNat : Int)
          refine s_on 59 rfl (congrArg Value.bool (decide_eq_true h65)) (o_move (v := v50) rfl ?_)
          refine s_on 59 rfl (congrArg Value.bool (decide_eq_true h65)) (o_callf (vs := #[v50]) ca18 rfl (args1 rfl) (seal_c hH63.all (hg.mono (seg_sub 3 rfl)) (ho52.sl.mono (seg_sub 1 rfl)) (by simp only [List.length_append, List.length_cons, List.length_nil]; omega) (by rw [show (acc ++ [t.drop at_.toNat]).flatten = t from (by rw [List.flatten_append, hfl, List.flatten_cons, List.flatten_nil, List.append_nil, List.take_append_drop])]; omega)) ?_)
          rintro _ w68 ⟨rfl, hX66⟩
          refine ⟨_, rfl, ?_⟩
          have hH67 := hX66.of_all
          refine s_on 59 rfl (congrArg Value.bool (decide_eq_true h65)) (o_move (v := (S t)) e18_0 ?_)
          refine s_on 59 rfl (congrArg Value.bool (decide_eq_true h65)) (o_buildSlice (ps := #[(0, (S t))]) (cells := #[(S t)]) Tryd.underlying22 ti9 (by decide) (parts1 rfl) (by kernel_rfl) hH67 fun b69 w70 hH71 => ?_)
          refine s_on 59 rfl (congrArg Value.bool (decide_eq_true h65)) (o_callf (vs := #[(.slice (some ⟨b69, 0, none⟩) 1 1)]) ca18 rfl (args1 rfl) (seal_c hH71.all (hg.mono (seg_sub 4 rfl)) ((sl_lit (f := sV) (l := [t]) rfl rfl (by simp)).mono (seg_sub 0 rfl)) (by simp) (by rw [flat1]; omega)) ?_)
          rintro _ w74 ⟨rfl, hX72⟩
          refine ⟨_, rfl, ?_⟩
          have hH73 := hX72.of_all
          refine s_on 59 rfl (congrArg Value.bool (decide_eq_true h65)) (o_seql (a := (sealS (acc ++ [t.drop (at_).toNat]).flatten)) (b := (sealS [t].flatten)) rfl rfl ?_)
          refine s_op (o_pick_t (u := (.bool (decide ((sealS (acc ++ [t.drop (at_).toNat]).flatten) = (sealS [t].flatten))))) ((rfl : _ = _).trans (congrArg Value.bool (decide_eq_true h65))) rfl ?_)
          refine s_op (o_move (v := (.bool (decide ((sealS (acc ++ [t.drop (at_).toNat]).flatten) = (sealS [t].flatten))))) rfl ?_)
          by_cases h75 : (sealS (acc ++ [t.drop (at_).toNat]).flatten) = (sealS [t].flatten)
          · -- (sealS (acc ++ [t.drop (at_).toNat]).flatten) = (sealS [t].flatten)
            refine s_on 67 rfl (congrArg Value.bool (decide_eq_true h75)) (o_move (v := v50) rfl ?_)
            refine s_on 67 rfl (congrArg Value.bool (decide_eq_true h75)) (o_callf (vs := #[v50]) ca18 rfl (args1 rfl) (seal_c hH73.all (hg.mono (seg_sub 4 rfl)) (ho52.sl.mono (seg_sub 2 rfl)) (by simp only [List.length_append, List.length_cons, List.length_nil]; omega) (by rw [show (acc ++ [t.drop at_.toNat]).flatten = t from (by rw [List.flatten_append, hfl, List.flatten_cons, List.flatten_nil, List.append_nil, List.take_append_drop])]; omega)) ?_)
            rintro _ w78 ⟨rfl, hX76⟩
            refine ⟨_, rfl, ?_⟩
            have hH77 := hX76.of_all
            refine s_on 67 rfl (congrArg Value.bool (decide_eq_true h75)) (o_buildSlice (ps := #[(0, (S (sealS (acc ++ [t.drop (at_).toNat]).flatten)))]) (cells := #[(S (sealS (acc ++ [t.drop (at_).toNat]).flatten))]) Tryd.underlying22 ti9 (by decide) (parts1 rfl) (by kernel_rfl) hH77 fun b79 w80 hH81 => ?_)
            refine s_on 67 rfl (congrArg Value.bool (decide_eq_true h75)) (o_callf (vs := #[(.slice (some ⟨b79, 0, none⟩) 1 1)]) ca22 rfl (args1 rfl) (good_c hH81.all (hg.mono (seg_sub 5 rfl)) ((sl_lit (f := sV) (l := [(sealS (acc ++ [t.drop (at_).toNat]).flatten)]) rfl rfl (by simp)).mono (seg_sub 0 rfl)) (fun x hx => by rw [List.mem_singleton.1 hx, sealS, List.length_append, laidS_len, show (acc ++ [t.drop at_.toNat]).flatten = t from (by rw [List.flatten_append, hfl, List.flatten_cons, List.flatten_nil, List.append_nil, List.take_append_drop])]; omega)) ?_)
            rintro _ w84 ⟨rfl, hX82⟩
            refine ⟨_, rfl, ?_⟩
            have hH83 := hX82.of_all
            refine s_op (o_pick_t (u := (.bool ([(sealS (acc ++ [t.drop (at_).toNat]).flatten)].all (fun x => (openS x).2)))) ((rfl : _ = _).trans (congrArg Value.bool (decide_eq_true h75))) rfl ?_)
            refine s_op (o_move (v := (.bool ([(sealS (acc ++ [t.drop (at_).toNat]).flatten)].all (fun x => (openS x).2)))) rfl ?_)
            rcases Bool.eq_false_or_eq_true ([(sealS (acc ++ [t.drop (at_).toNat]).flatten)].all (fun x => (openS x).2)) with h85 | h85
            · -- ([(sealS (acc ++ [t.drop (at_).toNat]).flatten)].all (fun x => (openS x).2))
              refine s_on 73 rfl (congrArg Value.bool h85) (o_callf (vs := #[]) ca13 rfl (args0) (awake2_c hH83.all (hg.mono (seg_sub 5 rfl))) ?_)
              rintro _ w88 ⟨rfl, hX86⟩
              refine ⟨_, rfl, ?_⟩
              have hH87 := hX86.of_all
              refine s_op (o_pick_t (u := (.bool true)) ((rfl : _ = _).trans (congrArg Value.bool h85)) rfl ?_)
              refine s_op (o_assign (v := (.bool true)) rfl ?_)
              refine s_nil ?_
              refine t_norm (hK55 _ _ ?_)
              refine wp_ret ?_
              refine c_ret1 Tryd.results6 (v := (.bool true)) rfl ?_
              have hH89 : Has E w88 [R] := (hH87.front 5 rfl).first 1 rfl
              exact ⟨rfl, hH89⟩
            · -- not: ([(sealS (acc ++ [t.drop (at_).toNat]).flatten)].all (fun x => (openS x).2))
              rw [seal_good] at h85
              cases h85
          · -- not: (sealS (acc ++ [t.drop (at_).toNat]).flatten) = (sealS [t].flatten)
            rw [show (acc ++ [t.drop at_.toNat]).flatten = t from (by rw [List.flatten_append, hfl, List.flatten_cons, List.flatten_nil, List.append_nil, List.take_append_drop]), flat1] at h75
            exact absurd rfl h75
        · -- not: ((crcS (acc ++ [t.drop (at_).toNat]).flatten).toNat : Int) = ((crcS [t].flatten).toNat : Int)
          rw [show (acc ++ [t.drop at_.toNat]).flatten = t from (by rw [List.flatten_append, hfl, List.flatten_cons, List.flatten_nil, List.append_nil, List.take_append_drop]), flat1] at h65
          exact absurd rfl h65
end Go.Q
