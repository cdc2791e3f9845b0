/-
  Parts of a walk: what functions of the program compute, each told by a theorem (QDp1, QBld, QDevK, QIn, QDSB, QDSB2, QDn1, QM, QDn2, QCrc, QU, QDs1, QZ, QDSh1, QDs2, QPage2, QW, QBurst, QFrame).
-/
import Derived.Test.YtcffibbdbalmjaaDoorB2
import Derived.Lib.AppendStr
import Derived.Lib.UnsafeStr
import Derived.Lib.Builder
import Derived.Below
import Derived.Shelf.Strings.OnBuilder
import Derived.Shelf.Strings.Repeat
import Derived.Shelf.Bits.Mul64
import Derived.Laws.IdiomStrings
set_option linter.unusedVariables false
set_option linter.unusedSimpArgs false
set_option linter.unnecessarySimpa false
namespace Go.Q
open Go.Proofs
set_option linter.unusedVariables false
set_option maxRecDepth 100000
attribute [local irreducible] wpList OK Code.wp
set_option maxHeartbeats 4000000 in
theorem cells_c {E w : World} {R : List Hp} {v_l : Value} {l : List Cel}  (hH : Has E w [R]) (h_l : Sl R 2 v_l l.length (l.flatMap ceC)) :
    Calls Tryd.prog 35 #[v_l] w fun e w' => e = .returned (.bool (cellsR l)) ∧ Has E w' [R] := by
  have hn_ := h_l.le
  refine c_enter (args := [v_l]) Tryd.func35 rfl Tryd.ntmps35 (by simp) ?_
  refine wp_seq_k fun K1 hK1 => ?_
  refine c_region ?_
  refine s_op (o_assign (v := (.bool false)) rfl ?_)
  refine s_nil ?_
  refine t_norm (hK1 _ _ ?_)
  refine wp_seq_k fun K2 hK2 => ?_
  refine wp_seq_k fun K3 hK3 => ?_
  refine c_region ?_
  refine s_op (o_move (v := v_l) rfl ?_)
  refine s_op (o_lenS Tryd.underlying22 rfl h_l ?_)
  refine s_op (o_move (v := (.int .i64 0)) rfl ?_)
  refine s_nil ?_
  refine t_norm (hK3 _ _ ?_)
  refine wp_block ?_
  let I5 : Nat → (Nat → Value) → World → Prop := fun n__ r__ w__ => ∃ (k : Nat), n__ = l.length - k ∧ Has E w__ [R] ∧ (k ≤ l.length) ∧ ((l.take k).all celOk = true) ∧ (Rises (l.take k)) ∧ r__ 0 = v_l ∧ r__ 5 = v_l ∧ r__ 6 = (.int .i64 ((l.length : Nat) : Int)) ∧ r__ 7 = (.int .i64 (k : Int))
  refine c_loop I5 _ ⟨0, rfl, hH, Nat.zero_le _, rfl, List.Pairwise.nil, rfl, rfl, rfl, rfl⟩ ?_
  rintro n_ r8 w6 ⟨k, rfl, hH7, hk, ha, hr, e4_0, e4_5, e4_6, e4_7⟩
  refine wp_seq_k fun K9 hK9 => ?_
  refine c_region ?_
  refine s_op (o_lss (a := (k : Int)) (b := ((l.length : Nat) : Int)) e4_7 e4_6 ?_)
  refine s_nil ?_
  refine t_norm (hK9 _ _ ?_)
  refine wp_seq_k fun K10 hK10 => ?_
  refine c_cond rfl (fun h11 => ?_) (fun h11 => ?_)
  · -- (k : Int) < ((l.length : Nat) : Int)
    refine wp_skip ?_
    refine t_norm (hK10 _ _ ?_)
    refine wp_seq_k fun K12 hK12 => ?_
    refine wp_block ?_
    refine wp_seq_k fun K13 hK13 => ?_
    refine c_region ?_
    refine s_op (o_move (v := (.int .i64 (k : Int))) e4_7 ?_)
    obtain ⟨x17, hx18⟩ : ∃ x_, l[((k : Int)).toNat]? = some x_ := get_some (by omega)
    refine s_op (o_indexF ceC_len Tryd.underlying22 ti45 e4_5 h_l rfl e4_7 (by omega) hx18 fun b14 o15 hc16 => ?_)
    refine s_op (o_loadN (cs := [(S x17.1), (S x17.2)]) Tryd.underlying45 rfl ti45 rfl hH7 (seg_sub 0 rfl) hc16 ?_)
    refine s_op (o_alloc (cs := #[(S ([] : List UInt8)), (S ([] : List UInt8))]) ti45 rfl hH7 fun b19 w20 hH21 => ?_)
    refine s_op (o_assign (v := (.int .i64 (k : Int))) rfl ?_)
    refine s_eff (o_storeN (vs := [(S x17.1), (S x17.2)]) (c' := #[(S x17.1), (S x17.2)]) ti45 rfl rfl rfl rfl (by intro u hu; simp only [List.mem_cons, List.not_mem_nil, or_false] at hu; rcases hu with rfl | rfl <;> first | rfl) (by simp) (by kernel_rfl) (hH21.front 0 rfl) fun w22 hH23 => ?_)
    refine s_nil ?_
    refine t_norm (hK13 _ _ ?_)
    refine wp_seq_k fun K24 hK24 => ?_
    refine Rest.region mixed (by kernel_rfl) ?_
    have hH25 : Has E { w22 with drawn := w22.drawn + 1 } [[Hp.one b19 (.cells #[(S x17.1), (S x17.2)] 45 (0, 0))], R] := Has0.drew hH23 _
    refine r_op 0 rfl (by kernel_rfl) (o_fieldAddr (k := 0) (fun _ => by kernel_rfl) rfl ?_)
    refine r_op 1 rfl (by kernel_rfl) (o_load1 (v := (S x17.1)) Tryd.underlying9 rfl rfl hH25 (seg_sub 0 rfl) (CellsAt.one rfl) ?_)
    refine r_op 2 rfl (by kernel_rfl) (o_buildSlice (ps := #[(0, (S x17.1))]) (cells := #[(S x17.1)]) Tryd.underlying32 ti9 (by decide) (parts1 rfl) (by kernel_rfl) hH25 fun b26 w27 hH28 => ?_)
    refine r_op 3 rfl (by kernel_rfl) (o_callf (vs := #[(.slice (some ⟨b26, 0, none⟩) 1 1)]) ca39 rfl (args1 rfl) (key_c (l := [x17.1]) hH28.all ((sl_lit (f := sV) (l := [x17.1]) rfl rfl (by simp)).mono (seg_sub 0 rfl))) ?_)
    rintro _ w31 ⟨rfl, hX29⟩
    refine ⟨_, rfl, ?_⟩
    have hH30 := hX29.of_all
    refine r_op 4 rfl (by kernel_rfl) (o_not rfl ?_)
    refine r_op 5 rfl (by kernel_rfl) (o_move (v := (.bool (!([x17.1].all keyR)))) rfl ?_)
    rcases Bool.eq_false_or_eq_true (!([x17.1].all keyR)) with h32 | h32
    · -- !([x17.1].all keyR)
      refine r_off (b' := true) 6 rfl (by kernel_rfl) 17 rfl (congrArg Value.bool h32) rfl ?_
      refine r_off (b' := true) 7 rfl (by kernel_rfl) 17 rfl (congrArg Value.bool h32) rfl ?_
      refine r_off (b' := true) 8 rfl (by kernel_rfl) 17 rfl (congrArg Value.bool h32) rfl ?_
      refine r_off (b' := true) 9 rfl (by kernel_rfl) 17 rfl (congrArg Value.bool h32) rfl ?_
      refine r_off (b' := true) 10 rfl (by kernel_rfl) 17 rfl (congrArg Value.bool h32) rfl ?_
      refine r_off (b' := true) 11 rfl (by kernel_rfl) 17 rfl (congrArg Value.bool h32) rfl ?_
      refine r_op 12 rfl (by kernel_rfl) (o_pick_t (u := (.bool true)) ((rfl : _ = _).trans (congrArg Value.bool h32)) rfl ?_)
      refine r_op 13 rfl (by kernel_rfl) (o_move (v := (.bool true)) rfl ?_)
      refine r_off (b' := true) 14 rfl (by kernel_rfl) 25 rfl rfl rfl ?_
      refine r_off (b' := true) 15 rfl (by kernel_rfl) 25 rfl rfl rfl ?_
      refine r_off (b' := true) 16 rfl (by kernel_rfl) 25 rfl rfl rfl ?_
      refine Rest.phaseA (fun w_ => Has E w_ []) 17 25 8 rfl (by decide) (by kernel_rfl) ?_
      refine a_offu 17 rfl (by kernel_rfl) 28 rfl rfl ?_
      refine a_offu 18 rfl (by kernel_rfl) 28 rfl rfl ?_
      refine a_offu 19 rfl (by kernel_rfl) 28 rfl rfl ?_
      refine a_offu 20 rfl (by kernel_rfl) 28 rfl rfl ?_
      refine a_offu 21 rfl (by kernel_rfl) 28 rfl rfl ?_
      refine a_offu 22 rfl (by kernel_rfl) 28 rfl rfl ?_
      refine a_offu 23 rfl (by kernel_rfl) 28 rfl rfl ?_
      refine a_offu 24 rfl (by kernel_rfl) 28 rfl rfl ?_
      have hH33 : Has E w31 [] := hH30.first 0 rfl
      refine a_done (by kernel_rfl) hH33 ?_
      refine r_offu 25 rfl (by kernel_rfl) 28 rfl rfl ?_
      refine r_off (b' := true) 26 rfl (by kernel_rfl) 25 rfl rfl rfl ?_
      refine r_op 27 rfl (by kernel_rfl) (o_pick_t (u := (.bool true)) rfl rfl ?_)
      refine Rest.done (by kernel_rfl) ?_
      refine t_norm (hK24 _ _ ?_)
      refine c_true rfl rfl ?_
      refine wp_seq_k fun K34 hK34 => ?_
      refine c_region ?_
      refine s_op (o_assign (v := (.bool false)) rfl ?_)
      refine s_nil ?_
      refine t_norm (hK34 _ _ ?_)
      refine wp_ret ?_
      refine b_ret (t_ret (t_ret (b_ret (t_ret (c_ret1 Tryd.results35  (v := (.bool false)) rfl ?_)))))
      have q35 : (cellsR l) = false := by exact cells_no1 hx18 (by (have h1_ := h32; simp only [List.all_cons, List.all_nil, Bool.and_true] at h1_; simp only [celOk]; rw [show keyR x17.1 = false by simpa using h1_]; rfl))
      have hH36 : Has E w31 [R] := (hH30.front 2 rfl).first 1 rfl
      exact ⟨by rw [q35], hH36⟩
    · -- not: !([x17.1].all keyR)
      refine r_on 6 rfl (by kernel_rfl) 17 rfl (congrArg Value.bool h32) (o_fieldAddr (k := 1) (fun _ => by kernel_rfl) rfl ?_)
      refine r_on 7 rfl (by kernel_rfl) 17 rfl (congrArg Value.bool h32) (o_load1 (v := (S x17.2)) Tryd.underlying9 rfl rfl hH30 (seg_sub 1 rfl) (CellsAt.one rfl) ?_)
      refine r_on 8 rfl (by kernel_rfl) 17 rfl (congrArg Value.bool h32) (o_callf (vs := #[(S x17.2)]) ca38 rfl (args1 rfl) (rhas_c (s := x17.2) hH30.all ) ?_)
      rintro _ w39 ⟨rfl, hX37⟩
      refine ⟨_, rfl, ?_⟩
      have hH38 := hX37.of_all
      refine r_on 9 rfl (by kernel_rfl) 17 rfl (congrArg Value.bool h32) (o_buildSlice (ps := #[(0, (.agg #[(.bool true), (S x17.2)]))]) (cells := #[(.bool true), (S x17.2)]) Tryd.underlying33 ti29 (by decide) (parts1 rfl) (by kernel_rfl) hH38 fun b40 w41 hH42 => ?_)
      refine r_on 10 rfl (by kernel_rfl) 17 rfl (congrArg Value.bool h32) (o_callf (vs := #[(.slice (some ⟨b40, 0, none⟩) 1 1)]) ca40 rfl (args1 rfl) (value_c (l := [(true, x17.2)]) hH42.all ((sl_litF (f := vlC) (l := [(true, x17.2)]) vlC_len rfl rfl (by simp)).mono (seg_sub 0 rfl))) ?_)
      rintro _ w45 ⟨rfl, hX43⟩
      refine ⟨_, rfl, ?_⟩
      have hH44 := hX43.of_all
      refine r_on 11 rfl (by kernel_rfl) 17 rfl (congrArg Value.bool h32) (o_not rfl ?_)
      refine r_op 12 rfl (by kernel_rfl) (o_pick_f (u := (.bool (!([(true, x17.2)].all valR)))) ((rfl : _ = _).trans (congrArg Value.bool h32)) rfl ?_)
      refine r_op 13 rfl (by kernel_rfl) (o_move (v := (.bool (!([(true, x17.2)].all valR)))) rfl ?_)
      rcases Bool.eq_false_or_eq_true (!([(true, x17.2)].all valR)) with h46 | h46
      · -- !([(true, x17.2)].all valR)
        refine r_off (b' := true) 14 rfl (by kernel_rfl) 25 rfl (congrArg Value.bool h46) rfl ?_
        refine r_off (b' := true) 15 rfl (by kernel_rfl) 25 rfl (congrArg Value.bool h46) rfl ?_
        refine r_off (b' := true) 16 rfl (by kernel_rfl) 25 rfl (congrArg Value.bool h46) rfl ?_
        refine Rest.phaseA (fun w_ => Has E w_ []) 17 25 8 rfl (by decide) (by kernel_rfl) ?_
        refine a_offu 17 rfl (by kernel_rfl) 28 rfl rfl ?_
        refine a_offu 18 rfl (by kernel_rfl) 28 rfl rfl ?_
        refine a_offu 19 rfl (by kernel_rfl) 28 rfl rfl ?_
        refine a_offu 20 rfl (by kernel_rfl) 28 rfl rfl ?_
        refine a_offu 21 rfl (by kernel_rfl) 28 rfl rfl ?_
        refine a_offu 22 rfl (by kernel_rfl) 28 rfl rfl ?_
        refine a_offu 23 rfl (by kernel_rfl) 28 rfl rfl ?_
        refine a_offu 24 rfl (by kernel_rfl) 28 rfl rfl ?_
        have hH47 : Has E w45 [] := hH44.first 0 rfl
        refine a_done (by kernel_rfl) hH47 ?_
        refine r_offu 25 rfl (by kernel_rfl) 28 rfl rfl ?_
        refine r_off (b' := true) 26 rfl (by kernel_rfl) 25 rfl (congrArg Value.bool h46) rfl ?_
        refine r_op 27 rfl (by kernel_rfl) (o_pick_t (u := (.bool true)) ((rfl : _ = _).trans (congrArg Value.bool h46)) rfl ?_)
        refine Rest.done (by kernel_rfl) ?_
        refine t_norm (hK24 _ _ ?_)
        refine c_true rfl rfl ?_
        refine wp_seq_k fun K48 hK48 => ?_
        refine c_region ?_
        refine s_op (o_assign (v := (.bool false)) rfl ?_)
        refine s_nil ?_
        refine t_norm (hK48 _ _ ?_)
        refine wp_ret ?_
        refine b_ret (t_ret (t_ret (b_ret (t_ret (c_ret1 Tryd.results35  (v := (.bool false)) rfl ?_)))))
        have q49 : (cellsR l) = false := by exact cells_no1 hx18 (by (have h1_ := h46; simp only [List.all_cons, List.all_nil, Bool.and_true] at h1_; simp only [celOk]; rw [show valR (true, x17.2) = false by simpa using h1_]; simp))
        have hH50 : Has E w45 [R] := (hH44.front 3 rfl).first 1 rfl
        exact ⟨by rw [q49], hH50⟩
      · -- not: !([(true, x17.2)].all valR)
        refine r_on 14 rfl (by kernel_rfl) 25 rfl (congrArg Value.bool h46) (o_move (v := (.int .i64 (k : Int))) rfl ?_)
        refine r_on 15 rfl (by kernel_rfl) 25 rfl (congrArg Value.bool h46) (o_gtr (a := (k : Int)) (b := 0) rfl rfl ?_)
        refine r_on 16 rfl (by kernel_rfl) 25 rfl (congrArg Value.bool h46) (o_move (v := (.bool (decide (0 < (k : Int))))) rfl ?_)
        refine Rest.phaseA (fun w_ => Has E w_ [[Hp.one b19 (.cells #[(S x17.1), (S x17.2)] 45 (0, 0))], R]) 17 25 8 rfl (by decide) (by kernel_rfl) ?_
        by_cases h51 : 0 < (k : Int)
        · -- 0 < (k : Int)
          refine a_on 17 rfl (by kernel_rfl) 28 rfl (congrArg Value.bool (decide_eq_true h51)) (fun w_ h_ => o_fieldAddr (k := 0) (fun _ => by kernel_rfl) rfl ⟨rfl, rfl⟩) ?_
          refine a_on 18 rfl (by kernel_rfl) 28 rfl (congrArg Value.bool (decide_eq_true h51)) (fun w_ h_ => o_load1 (v := (S x17.1)) Tryd.underlying9 rfl rfl h_ (seg_sub 0 rfl) (CellsAt.one rfl) ⟨rfl, rfl⟩) ?_
          refine a_on 19 rfl (by kernel_rfl) 28 rfl (congrArg Value.bool (decide_eq_true h51)) (fun w_ h_ => o_move (v := v_l) e4_0 ⟨rfl, rfl⟩) ?_
          refine a_on 20 rfl (by kernel_rfl) 28 rfl (congrArg Value.bool (decide_eq_true h51)) (fun w_ h_ => o_move (v := (.int .i64 (k : Int))) rfl ⟨rfl, rfl⟩) ?_
          refine a_on 21 rfl (by kernel_rfl) 28 rfl (congrArg Value.bool (decide_eq_true h51)) (fun w_ h_ => o_sub (a := (k : Int)) (b := 1) rfl rfl (w64 (by omega) (by omega)) ⟨rfl, rfl⟩) ?_
          obtain ⟨x55, hx56⟩ : ∃ x_, l[((k : Int) - 1).toNat]? = some x_ := get_some (by omega)
          obtain ⟨b52, o53, hc54, ho57⟩ := ix_exF ceC_len Tryd.underlying22 ti45 h_l (by omega) hx56
          refine a_on 22 rfl (by kernel_rfl) 28 rfl (congrArg Value.bool (decide_eq_true h51)) (fun w_ h_ => ho57 rfl rfl ⟨rfl, rfl⟩) ?_
          refine a_on 23 rfl (by kernel_rfl) 28 rfl (congrArg Value.bool (decide_eq_true h51)) (fun w_ h_ => o_fieldAddr (k := o53) (fun _ => by kernel_rfl) rfl ⟨rfl, rfl⟩) ?_
          refine a_on 24 rfl (by kernel_rfl) 28 rfl (congrArg Value.bool (decide_eq_true h51)) (fun w_ h_ => o_load1 (v := (S x55.1)) Tryd.underlying9 rfl rfl h_ (seg_sub 1 rfl) (CellsAt.field (k := 0) (ds := [(S x55.1)]) hc54 rfl) ⟨rfl, rfl⟩) ?_
          have hH58 : Has E w45 [[Hp.one b19 (.cells #[(S x17.1), (S x17.2)] 45 (0, 0))], R] := ((hH44.front 3 rfl).front 3 rfl).first 2 rfl
          refine a_done (by kernel_rfl) hH58 ?_
          refine r_on 25 rfl (by kernel_rfl) 28 rfl (congrArg Value.bool (decide_eq_true h51)) (o_sleP (a := x17.1) (b := x55.1) rfl rfl ?_)
          refine r_on 26 rfl (by kernel_rfl) 25 rfl (congrArg Value.bool h46) (o_pick_t (u := (.bool (decide (¬ (x55.1 < x17.1))))) ((rfl : _ = _).trans (congrArg Value.bool (decide_eq_true h51))) rfl ?_)
          refine r_op 27 rfl (by kernel_rfl) (o_pick_f (u := (.bool (decide (¬ (x55.1 < x17.1))))) ((rfl : _ = _).trans (congrArg Value.bool h46)) rfl ?_)
          refine Rest.done (by kernel_rfl) ?_
          refine t_norm (hK24 _ _ ?_)
          refine c_cond rfl (fun h59 => ?_) (fun h59 => ?_)
          · -- ¬ (x55.1 < x17.1)
            refine wp_seq_k fun K60 hK60 => ?_
            refine c_region ?_
            refine s_op (o_assign (v := (.bool false)) rfl ?_)
            refine s_nil ?_
            refine t_norm (hK60 _ _ ?_)
            refine wp_ret ?_
            refine b_ret (t_ret (t_ret (b_ret (t_ret (c_ret1 Tryd.results35  (v := (.bool false)) rfl ?_)))))
            have q61 : (cellsR l) = false := by exact cells_no2 (k := k) (by omega) hx18 (by rw [show k - 1 = ((k : Int) - 1).toNat by omega]; exact hx56) h59
            have hH62 : Has E w45 [R] := (hH44.front 3 rfl).first 1 rfl
            exact ⟨by rw [q61], hH62⟩
          · -- not: ¬ (x55.1 < x17.1)
            refine wp_skip ?_
            refine b_norm ?_
            refine t_norm (hK12 _ _ ?_)
            refine c_region ?_
            refine s_op (o_add (a := (k : Int)) (b := 1) e4_7 rfl (w64 (by omega) (by omega)) ?_)
            refine s_op (o_move (v := (.int .i64 ((k : Int) + 1))) rfl ?_)
            refine s_nil ?_
            have hH63 : Has E w45 [R] := (hH44.front 3 rfl).first 1 rfl
            refine t_norm ⟨l.length - (k + 1), _, rfl, ?_, ?_⟩
            · omega
            · exact ⟨(k + 1), rfl, hH63, (by omega), (all_next (show l[k]? = some _ from hx18) ha (by (have h1_ := h32; have h2_ := h46; simp only [List.all_cons, List.all_nil, Bool.and_true] at h1_ h2_; simp only [celOk, Bool.and_eq_true]; exact ⟨by simpa using h1_, by simpa using h2_⟩))), (cells_next (show l[k]? = some _ from hx18) hr (fun p h0 hp => by (have e_ := hp.symm.trans (show l[k - 1]? = some _ from by rw [show k - 1 = ((k : Int) - 1).toNat by omega]; exact hx56); cases e_; exact Classical.not_not.1 h59))), e4_0, e4_5, e4_6, rfl⟩
        · -- not: 0 < (k : Int)
          refine a_off (b' := false) 17 rfl (by kernel_rfl) 28 rfl (congrArg Value.bool (decide_eq_false h51)) rfl ?_
          refine a_off (b' := false) 18 rfl (by kernel_rfl) 28 rfl (congrArg Value.bool (decide_eq_false h51)) rfl ?_
          refine a_off (b' := false) 19 rfl (by kernel_rfl) 28 rfl (congrArg Value.bool (decide_eq_false h51)) rfl ?_
          refine a_off (b' := false) 20 rfl (by kernel_rfl) 28 rfl (congrArg Value.bool (decide_eq_false h51)) rfl ?_
          refine a_off (b' := false) 21 rfl (by kernel_rfl) 28 rfl (congrArg Value.bool (decide_eq_false h51)) rfl ?_
          refine a_off (b' := false) 22 rfl (by kernel_rfl) 28 rfl (congrArg Value.bool (decide_eq_false h51)) rfl ?_
          refine a_off (b' := false) 23 rfl (by kernel_rfl) 28 rfl (congrArg Value.bool (decide_eq_false h51)) rfl ?_
          refine a_off (b' := false) 24 rfl (by kernel_rfl) 28 rfl (congrArg Value.bool (decide_eq_false h51)) rfl ?_
          have hH64 : Has E w45 [[Hp.one b19 (.cells #[(S x17.1), (S x17.2)] 45 (0, 0))], R] := ((hH44.front 3 rfl).front 3 rfl).first 2 rfl
          refine a_done (by kernel_rfl) hH64 ?_
          refine r_off (b' := false) 25 rfl (by kernel_rfl) 28 rfl (congrArg Value.bool (decide_eq_false h51)) rfl ?_
          refine r_on 26 rfl (by kernel_rfl) 25 rfl (congrArg Value.bool h46) (o_pick_f (u := (.bool false)) ((rfl : _ = _).trans (congrArg Value.bool (decide_eq_false h51))) rfl ?_)
          refine r_op 27 rfl (by kernel_rfl) (o_pick_f (u := (.bool false)) ((rfl : _ = _).trans (congrArg Value.bool h46)) rfl ?_)
          refine Rest.done (by kernel_rfl) ?_
          refine t_norm (hK24 _ _ ?_)
          refine c_false rfl rfl ?_
          refine wp_skip ?_
          refine b_norm ?_
          refine t_norm (hK12 _ _ ?_)
          refine c_region ?_
          refine s_op (o_add (a := (k : Int)) (b := 1) e4_7 rfl (w64 (by omega) (by omega)) ?_)
          refine s_op (o_move (v := (.int .i64 ((k : Int) + 1))) rfl ?_)
          refine s_nil ?_
          have hH65 : Has E w45 [R] := (hH44.front 3 rfl).first 1 rfl
          refine t_norm ⟨l.length - (k + 1), _, rfl, ?_, ?_⟩
          · omega
          · exact ⟨(k + 1), rfl, hH65, (by omega), (all_next (show l[k]? = some _ from hx18) ha (by (have h1_ := h32; have h2_ := h46; simp only [List.all_cons, List.all_nil, Bool.and_true] at h1_ h2_; simp only [celOk, Bool.and_eq_true]; exact ⟨by simpa using h1_, by simpa using h2_⟩))), (cells_next (show l[k]? = some _ from hx18) hr (fun p h0 _ => absurd h0 (by omega))), e4_0, e4_5, e4_6, rfl⟩
  · -- not: (k : Int) < ((l.length : Nat) : Int)
    refine wp_exit ?_
    refine t_exit (t_exit (x_in (?_)))
    refine t_norm (hK2 _ _ ?_)
    refine wp_seq_k fun K66 hK66 => ?_
    refine c_region ?_
    refine s_op (o_move (v := v_l) e4_0 ?_)
    refine s_op (o_lenS Tryd.underlying22 rfl h_l ?_)
    refine s_op (o_leq (a := ((l.length : Nat) : Int)) (b := 8) rfl rfl ?_)
    refine s_op (o_assign (v := (.bool (decide (((l.length : Nat) : Int) ≤ 8)))) rfl ?_)
    refine s_nil ?_
    refine t_norm (hK66 _ _ ?_)
    refine wp_ret ?_
    refine c_ret1 Tryd.results35  (v := (.bool (decide (((l.length : Nat) : Int) ≤ 8)))) rfl ?_
    have q67 : (cellsR l) = decide (((l.length : Nat) : Int) ≤ 8) := by (have e_ : k = l.length := by omega); rw [e_, List.take_length] at ha hr; rw [cells_end ha hr]; exact decide_eq_decide.2 (by omega)
    exact ⟨by rw [q67], hH7⟩
set_option maxHeartbeats 4000000 in
theorem pright_c {E w : World} {R : List Hp} {no : Int} {gsn : Int} {v_l : Value} {l : List Cel}  (hH : Has E w [R]) (h_l : Sl R 2 v_l l.length (l.flatMap ceC)) :
    Calls Tryd.prog 10 #[(.agg #[(.int .i64 no), (.int .i64 gsn), v_l])] w fun e w' => e = .returned (.bool (pageR no gsn l)) ∧ Has E w' [R] := by
  refine c_enter (args := [(.agg #[(.int .i64 no), (.int .i64 gsn), v_l])]) Tryd.func10 rfl Tryd.ntmps10 (by simp) ?_
  refine wp_seq_k fun K1 hK1 => ?_
  refine c_region ?_
  refine s_op (o_box (cs := #[(.int .i64 no), (.int .i64 gsn), v_l]) rfl rfl hH fun b2 w3 hH4 => ?_)
  refine s_op (o_assign (v := (.bool false)) rfl ?_)
  refine s_nil ?_
  refine t_norm (hK1 _ _ ?_)
  refine wp_seq_k fun K5 hK5 => ?_
  refine c_region ?_
  refine s_op (o_fieldAddr (k := 0) (fun _ => by kernel_rfl) rfl ?_)
  refine s_op (o_load1 (v := (.int .i64 no)) Tryd.underlying3 rfl rfl hH4 (seg_sub 0 rfl) (CellsAt.one rfl) ?_)
  refine s_op (o_geq (a := no) (b := 0) rfl rfl ?_)
  refine s_op (o_move (v := (.bool (decide (0 ≤ no)))) rfl ?_)
  by_cases h6 : 0 ≤ no
  · -- 0 ≤ no
    refine s_on 6 rfl (congrArg Value.bool (decide_eq_true h6)) (o_fieldAddr (k := 0) (fun _ => by kernel_rfl) rfl ?_)
    refine s_on 6 rfl (congrArg Value.bool (decide_eq_true h6)) (o_load1 (v := (.int .i64 no)) Tryd.underlying3 rfl rfl hH4 (seg_sub 0 rfl) (CellsAt.one rfl) ?_)
    refine s_on 6 rfl (congrArg Value.bool (decide_eq_true h6)) (o_lss (a := no) (b := 64) rfl rfl ?_)
    refine s_op (o_pick_t (u := (.bool (decide (no < 64)))) ((rfl : _ = _).trans (congrArg Value.bool (decide_eq_true h6))) rfl ?_)
    refine s_op (o_move (v := (.bool (decide (no < 64)))) rfl ?_)
    by_cases h7 : no < 64
    · -- no < 64
      refine s_on 11 rfl (congrArg Value.bool (decide_eq_true h7)) (o_fieldAddr (k := 1) (fun _ => by kernel_rfl) rfl ?_)
      refine s_on 11 rfl (congrArg Value.bool (decide_eq_true h7)) (o_load1 (v := (.int .i64 gsn)) Tryd.underlying3 rfl rfl hH4 (seg_sub 0 rfl) (CellsAt.one rfl) ?_)
      refine s_on 11 rfl (congrArg Value.bool (decide_eq_true h7)) (o_geq (a := gsn) (b := 0) rfl rfl ?_)
      refine s_op (o_pick_t (u := (.bool (decide (0 ≤ gsn)))) ((rfl : _ = _).trans (congrArg Value.bool (decide_eq_true h7))) rfl ?_)
      refine s_op (o_move (v := (.bool (decide (0 ≤ gsn)))) rfl ?_)
      by_cases h8 : 0 ≤ gsn
      · -- 0 ≤ gsn
        refine s_on 16 rfl (congrArg Value.bool (decide_eq_true h8)) (o_fieldAddr (k := 1) (fun _ => by kernel_rfl) rfl ?_)
        refine s_on 16 rfl (congrArg Value.bool (decide_eq_true h8)) (o_load1 (v := (.int .i64 gsn)) Tryd.underlying3 rfl rfl hH4 (seg_sub 0 rfl) (CellsAt.one rfl) ?_)
        refine s_on 16 rfl (congrArg Value.bool (decide_eq_true h8)) (o_leq (a := gsn) (b := 4611686018427387903) rfl rfl ?_)
        refine s_op (o_pick_t (u := (.bool (decide (gsn ≤ 4611686018427387903)))) ((rfl : _ = _).trans (congrArg Value.bool (decide_eq_true h8))) rfl ?_)
        refine s_op (o_move (v := (.bool (decide (gsn ≤ 4611686018427387903)))) rfl ?_)
        by_cases h9 : gsn ≤ 4611686018427387903
        · -- gsn ≤ 4611686018427387903
          refine s_on 21 rfl (congrArg Value.bool (decide_eq_true h9)) (o_fieldAddr (k := 2) (fun _ => by kernel_rfl) rfl ?_)
          refine s_on 21 rfl (congrArg Value.bool (decide_eq_true h9)) (o_load1 (v := v_l) Tryd.underlying22 rfl rfl hH4 (seg_sub 0 rfl) (CellsAt.one rfl) ?_)
          refine s_on 21 rfl (congrArg Value.bool (decide_eq_true h9)) (o_callf (vs := #[v_l]) ca35 rfl (args1 rfl) (cells_c (l := l) hH4.all (h_l.mono (seg_sub 1 rfl))) ?_)
          rintro _ w12 ⟨rfl, hX10⟩
          refine ⟨_, rfl, ?_⟩
          have hH11 := hX10.of_all
          refine s_op (o_pick_t (u := (.bool (cellsR l))) ((rfl : _ = _).trans (congrArg Value.bool (decide_eq_true h9))) rfl ?_)
          refine s_op (o_assign (v := (.bool (cellsR l))) rfl ?_)
          refine s_nil ?_
          refine t_norm (hK5 _ _ ?_)
          refine wp_ret ?_
          refine c_ret1 Tryd.results10  (v := (.bool (cellsR l))) rfl ?_
          have q13 : (pageR no gsn l) = (cellsR l) := by unfold pageR; rw [Bool.eq_iff_iff]; simp [h6, h7, h8, h9]; try omega
          have hH14 : Has E w12 [R] := (hH11.front 1 rfl).first 1 rfl
          exact ⟨by rw [q13], hH14⟩
        · -- not: gsn ≤ 4611686018427387903
          refine s_off (b' := false) 21 rfl (congrArg Value.bool (decide_eq_false h9)) rfl ?_
          refine s_off (b' := false) 21 rfl (congrArg Value.bool (decide_eq_false h9)) rfl ?_
          refine s_off (b' := false) 21 rfl (congrArg Value.bool (decide_eq_false h9)) rfl ?_
          refine s_op (o_pick_f (u := (.bool false)) ((rfl : _ = _).trans (congrArg Value.bool (decide_eq_false h9))) rfl ?_)
          refine s_op (o_assign (v := (.bool false)) rfl ?_)
          refine s_nil ?_
          refine t_norm (hK5 _ _ ?_)
          refine wp_ret ?_
          refine c_ret1 Tryd.results10  (v := (.bool false)) rfl ?_
          have q15 : (pageR no gsn l) = false := by unfold pageR; rw [Bool.eq_iff_iff]; simp [h6, h7, h8, h9]; try omega
          have hH16 : Has E w3 [R] := (hH4.front 1 rfl).first 1 rfl
          exact ⟨by rw [q15], hH16⟩
      · -- not: 0 ≤ gsn
        refine s_off (b' := false) 16 rfl (congrArg Value.bool (decide_eq_false h8)) rfl ?_
        refine s_off (b' := false) 16 rfl (congrArg Value.bool (decide_eq_false h8)) rfl ?_
        refine s_off (b' := false) 16 rfl (congrArg Value.bool (decide_eq_false h8)) rfl ?_
        refine s_op (o_pick_f (u := (.bool false)) ((rfl : _ = _).trans (congrArg Value.bool (decide_eq_false h8))) rfl ?_)
        refine s_op (o_move (v := (.bool false)) rfl ?_)
        refine s_off (b' := false) 21 rfl rfl rfl ?_
        refine s_off (b' := false) 21 rfl rfl rfl ?_
        refine s_off (b' := false) 21 rfl rfl rfl ?_
        refine s_op (o_pick_f (u := (.bool false)) rfl rfl ?_)
        refine s_op (o_assign (v := (.bool false)) rfl ?_)
        refine s_nil ?_
        refine t_norm (hK5 _ _ ?_)
        refine wp_ret ?_
        refine c_ret1 Tryd.results10  (v := (.bool false)) rfl ?_
        have q17 : (pageR no gsn l) = false := by unfold pageR; rw [Bool.eq_iff_iff]; simp [h6, h7, h8]; try omega
        have hH18 : Has E w3 [R] := (hH4.front 1 rfl).first 1 rfl
        exact ⟨by rw [q17], hH18⟩
    · -- not: no < 64
      refine s_off (b' := false) 11 rfl (congrArg Value.bool (decide_eq_false h7)) rfl ?_
      refine s_off (b' := false) 11 rfl (congrArg Value.bool (decide_eq_false h7)) rfl ?_
      refine s_off (b' := false) 11 rfl (congrArg Value.bool (decide_eq_false h7)) rfl ?_
      refine s_op (o_pick_f (u := (.bool false)) ((rfl : _ = _).trans (congrArg Value.bool (decide_eq_false h7))) rfl ?_)
      refine s_op (o_move (v := (.bool false)) rfl ?_)
      refine s_off (b' := false) 16 rfl rfl rfl ?_
      refine s_off (b' := false) 16 rfl rfl rfl ?_
      refine s_off (b' := false) 16 rfl rfl rfl ?_
      refine s_op (o_pick_f (u := (.bool false)) rfl rfl ?_)
      refine s_op (o_move (v := (.bool false)) rfl ?_)
      refine s_off (b' := false) 21 rfl rfl rfl ?_
      refine s_off (b' := false) 21 rfl rfl rfl ?_
      refine s_off (b' := false) 21 rfl rfl rfl ?_
      refine s_op (o_pick_f (u := (.bool false)) rfl rfl ?_)
      refine s_op (o_assign (v := (.bool false)) rfl ?_)
      refine s_nil ?_
      refine t_norm (hK5 _ _ ?_)
      refine wp_ret ?_
      refine c_ret1 Tryd.results10  (v := (.bool false)) rfl ?_
      have q19 : (pageR no gsn l) = false := by unfold pageR; rw [Bool.eq_iff_iff]; simp [h6, h7]; try omega
      have hH20 : Has E w3 [R] := (hH4.front 1 rfl).first 1 rfl
      exact ⟨by rw [q19], hH20⟩
  · -- not: 0 ≤ no
    refine s_off (b' := false) 6 rfl (congrArg Value.bool (decide_eq_false h6)) rfl ?_
    refine s_off (b' := false) 6 rfl (congrArg Value.bool (decide_eq_false h6)) rfl ?_
    refine s_off (b' := false) 6 rfl (congrArg Value.bool (decide_eq_false h6)) rfl ?_
    refine s_op (o_pick_f (u := (.bool false)) ((rfl : _ = _).trans (congrArg Value.bool (decide_eq_false h6))) rfl ?_)
    refine s_op (o_move (v := (.bool false)) rfl ?_)
    refine s_off (b' := false) 11 rfl rfl rfl ?_
    refine s_off (b' := false) 11 rfl rfl rfl ?_
    refine s_off (b' := false) 11 rfl rfl rfl ?_
    refine s_op (o_pick_f (u := (.bool false)) rfl rfl ?_)
    refine s_op (o_move (v := (.bool false)) rfl ?_)
    refine s_off (b' := false) 16 rfl rfl rfl ?_
    refine s_off (b' := false) 16 rfl rfl rfl ?_
    refine s_off (b' := false) 16 rfl rfl rfl ?_
    refine s_op (o_pick_f (u := (.bool false)) rfl rfl ?_)
    refine s_op (o_move (v := (.bool false)) rfl ?_)
    refine s_off (b' := false) 21 rfl rfl rfl ?_
    refine s_off (b' := false) 21 rfl rfl rfl ?_
    refine s_off (b' := false) 21 rfl rfl rfl ?_
    refine s_op (o_pick_f (u := (.bool false)) rfl rfl ?_)
    refine s_op (o_assign (v := (.bool false)) rfl ?_)
    refine s_nil ?_
    refine t_norm (hK5 _ _ ?_)
    refine wp_ret ?_
    refine c_ret1 Tryd.results10  (v := (.bool false)) rfl ?_
    have q21 : (pageR no gsn l) = false := by unfold pageR; rw [Bool.eq_iff_iff]; simp [h6]; try omega
    have hH22 : Has E w3 [R] := (hH4.front 1 rfl).first 1 rfl
    exact ⟨by rw [q21], hH22⟩
end Go.Q
namespace Go.Q
open Go.RowKit
section
variable {P : Program} {ρ : Operand → Value} {E w : World} {ss : List (List Hp)} {K : Value → World → Prop} {dst : Option Tmp} {T : TypeId} {pos : String} {after : Array Edge} {g : Option (Nat × Bool)}
theorem strCells_S (l : List UInt8) : Lib.strCells ⟨l.toArray⟩ = l.map bV := rfl
theorem o_appstr {x y : Operand} {t u e : TypeId} {v : Value} {n : Nat} {cs : List Value} {hs : List Hp} {l : List UInt8} (ht : P.underlying t = some (.slice e)) (hu : P.underlying u = some .string) (hi : TI P e (.int .u8 0) 1 1)
    (hx : ρ x = v) (ho : Own e 1 v n cs hs) (hy : ρ y = S l) (H : Has E w (hs :: ss)) (hb : n + l.length ≤ 140737488355328)
    (hK : ∀ v' hs' w', Own e 1 v' (n + l.length) (cs ++ l.map bV) hs' → (v = .slice none 0 0 → l = [] → v' = .slice none 0 0) → Has E w' (hs' :: ss) → K v' w') :
    OK P ⟨dst, .call ⟨.builtin .append, #[x, y], #[t, u]⟩, T, pos, after, g⟩ ρ w K := by
  obtain ⟨i, hi, hiz, hisz, hiby⟩ := hi
  have hsz : (⟨l.toArray⟩ : ByteArray).size = l.length := by simp [ByteArray.size]
  have hrow := ho.row H
  obtain ⟨v', w', hr, ho', hg, hnil⟩ := Lib.run_append_own_string w 0 t u T e i ht hu hi hiz hisz hiby v n cs hrow ⟨l.toArray⟩ (by rw [hsz]; unfold maxLen; omega) (by rw [hsz]; omega) (Nat.zero_le _)
  have hloc : v'.ownBlock = v.ownBlock ∨ v'.ownBlock = some w.heap.size := by
    obtain ⟨hlc, ⟨rfl, rfl, rfl⟩ | ⟨b, cap, cur, rfl, rfl, hnc, hcm, hcs, htake⟩⟩ := ho
    · by_cases hm : l.length = 0
      · exact .inl (by rw [hnil.2 ⟨rfl, by rw [hsz]; exact hm⟩])
      · have hr2 := run_append_nil_string (P := P) w t u T e i (.int .u8 0) ht hu hi hiz ⟨l.toArray⟩ (by rw [hsz]; omega) (by rw [hsz]; omega) (by rw [hsz, hiby]; omega)
        rw [hr2] at hr
        injection hr with e1 e2
        exact .inr (by rw [← e1]; rfl)
    · have hg0 : w.heap[b]? = some (.cells cur e (0, 0)) := H.at (by simp) (Hp.one_at _ _)
      by_cases hroom : n + (⟨l.toArray⟩ : ByteArray).size ≤ cap
      · have hr2 := Lib.run_append_room_string (P := P) w t u T e i ht hu hi hisz b n cap cur hg0 ⟨l.toArray⟩ hroom (by omega)
        rw [hr2] at hr
        injection hr with e1 e2
        exact .inl (by rw [← e1]; rfl)
      · have holds : ∀ j x, cs[j]? = some x → w.cell? ((⟨b, 0, none⟩ : Addr).add j) = some x := hrow.cells (g := b) rfl
        have hr2 := Lib.run_append_grow_string (P := P) w t u T e i (.int .u8 0) ht hu hi hiz ⟨b, 0, none⟩ n cap cs (by rw [hisz]; simpa using hlc) holds ⟨l.toArray⟩ (by omega) (by rw [hsz]; omega) (by rw [hiby]; exact growslice_fits (by omega) (by rw [hsz]; omega))
        rw [hr2] at hr
        injection hr with e1 e2
        exact .inr (by rw [← e1]; rfl)
  rw [hsz, strCells_S] at ho'
  obtain ⟨hs', hown, hH⟩ := ho.turn H ho' hg hloc
  refine o_call_builtin (v := v') (w' := w') ?_ (hK v' hs' w' hown (fun h1 h2 => hnil.2 ⟨h1, by rw [h2]; rfl⟩) hH)
  have hyy : ρ y = .string ⟨l.toArray⟩ := hy
  simp only [hx, hyy, builtin, List.map_toArray, List.map_cons, List.map_nil, Sem.run_bind, hr, Result.andThen_ok, Sem.run_pure]
/-- unsafe.SliceData of no row, of a row -/
theorem o_uSDnil {x : Operand} {t : TypeId} {n c : Nat} (hx : ρ x = .slice none n c) (h : K (.pointer none) w) : OK P ⟨dst, .call ⟨.builtin .unsafeSliceData, #[x], #[t]⟩, T, pos, after, g⟩ ρ w K := by
  refine o_call_builtin (v := .pointer none) (w' := w) ?_ h
  simp [hx, builtin, Lib.run_unsafeSliceData_nil]
theorem o_uSD {x : Operand} {t : TypeId} {a : Addr} {n c : Nat} (hx : ρ x = .slice (some a) n c) (hc : c ≠ 0) (h : K (.pointer (some a)) w) : OK P ⟨dst, .call ⟨.builtin .unsafeSliceData, #[x], #[t]⟩, T, pos, after, g⟩ ρ w K := by
  refine o_call_builtin (v := .pointer (some a)) (w' := w) ?_ h
  simp [hx, builtin, Lib.run_unsafeSliceData_row w _ _ a n c hc]
theorem Has.freeze {E w : World} {hs : List Hp} {ss : List (List Hp)} {b : Nat} {o : Obj} (H : Has E w (hs :: ss)) (hh : hs = [Hp.one b o]) (n : Nat) : Has E (w.freeze ⟨b, 0, none⟩ n) ss := by
  subst hh
  have h0 : Has0 E w ([Hp.one b o] ++ ss.flatten) := by simpa [Has] using H
  have h1 : Has0 E (w.freeze ⟨b, 0, none⟩ n) ([] ++ ss.flatten) := by
    unfold World.freeze
    split
    · exact h0.weak (by simp)
    · refine Has0.write (an := [Hp.one b o]) (an' := []) h0 rfl rfl rfl (by simp) (fun k _ => .inl (by simp)) (by simp) fun k hk hn => ?_
      have hne : b ≠ k := fun e => by
        have := hn _ (List.mem_singleton.2 rfl)
        rw [← e, Hp.one_at] at this; cases this
      simp only [Array.getElem?_modify]
      rw [if_neg (fun e => hne e)]
  simpa [Has] using h1
/-- unsafe.String of a row's bytes -/
theorem o_uStrNil {x y : Operand} {t u : TypeId} {p : Option Addr} (hx : ρ x = .pointer p) (hy : ρ y = .int .i64 0) (h : K (S []) w) : OK P ⟨dst, .call ⟨.builtin .unsafeString, #[x, y], #[t, u]⟩, T, pos, after, g⟩ ρ w K := by
  refine o_call_builtin (v := S []) (w' := w) ?_ h
  simp only [hx, hy, builtin, List.map_toArray, List.map_cons, List.map_nil, Sem.run_bind, Lib.run_unsafeString_none, Result.andThen_ok, Sem.run_pure]; rfl
theorem o_uStr {x y : Operand} {t u e : TypeId} {b cap : Nat} {l : List UInt8} {hs : List Hp} (ht : P.underlying t = some (.pointer e)) (hc : P.cellsOf e = 1) (hx : ρ x = .pointer (some ⟨b, 0, none⟩)) (hy : ρ y = .int .i64 (l.length : Int))
    (ho : Own e 1 (.slice (some ⟨b, 0, none⟩) l.length cap) l.length (l.map bV) hs) (h0 : l ≠ []) (H : Has E w (hs :: ss)) (hK : ∀ w', Has E w' ss → K (S l) w') : OK P ⟨dst, .call ⟨.builtin .unsafeString, #[x, y], #[t, u]⟩, T, pos, after, g⟩ ρ w K := by
  have hrow := ho.row H
  have hcells := hrow.cells (g := b) rfl
  obtain ⟨hlc, ⟨h, _⟩ | ⟨b', cap', cur, h, hhs, hnc, hcm, hcs, _⟩⟩ := ho
  · cases h
  · cases h
    have hg : w.heap[b]? = some (.cells cur e (0, 0)) := H.at (h := Hp.one b (.cells cur e (0, 0))) (by rw [hhs]; simp) (Hp.one_at _ _)
    have hr := Lib.run_unsafeString_row (P := P) w t u T e ht hc b cur.size (by simp [World.shape?, hg]) l h0 (by omega) (by unfold maxLen at hcm; omega) (fun j x hj => hcells j _ (by rw [List.getElem?_map, hj]; rfl))
    refine o_call_builtin (v := S l) (w' := w.freeze ⟨b, 0, none⟩ l.length) ?_ (hK _ (H.freeze hhs _))
    simp only [hx, hy, builtin, List.map_toArray, List.map_cons, List.map_nil, Sem.run_bind, hr, Result.andThen_ok, Sem.run_pure]; rfl
/-- a pointer as unsafe.Pointer, and back -/
theorem shape_of {E w : World} {ss : List (List Hp)} {b : Nat} {cs : Array Value} {T' : TypeId} {f : Nat × Nat} (H : Has E w ss) (hL : [Hp.one b (.cells cs T' f)] ⊆ ss.flatten) : w.shape? b = some (T', cs.size) := by
  have hg : w.heap[b]? = some (.cells cs T' f) := H.at (hL (List.mem_singleton.2 rfl)) (Hp.one_at _ _)
  simp [World.shape?, hg]
theorem o_toUnsafe {x : Operand} {t u te T' : TypeId} {b : Nat} {cs : Array Value} {f : Nat × Nat} {z : Value} {sz by_ : Nat} (ht : P.underlying t = some (.pointer te)) (hu : P.underlying u = some .unsafePointer) (hj : TI P te z sz by_) (hjs : sz ≠ 0) (hx : ρ x = .pointer (some ⟨b, 0, none⟩))
    (H : Has E w ss) (hL : [Hp.one b (.cells cs T' f)] ⊆ ss.flatten) (hc : 0 < cs.size) (h : K (.pointer (some ⟨b, 0, none⟩)) w) : OK P ⟨dst, .convert t u x, T, pos, after, g⟩ ρ w K := by
  obtain ⟨j, hj, _, hsz, _⟩ := hj
  exact OK.val (run_v (by rw [hx]; exact Lib.run_to_unsafe w ⟨b, 0, none⟩ ht hu hj (by rw [hsz]; exact hjs) (shape_of H hL) hc)) h
theorem o_fromUnsafe {x : Operand} {t u te T' : TypeId} {b : Nat} {cs : Array Value} {f : Nat × Nat} {z : Value} {sz by_ : Nat} (ht : P.underlying t = some .unsafePointer) (hu : P.underlying u = some (.pointer te)) (hj : TI P te z sz by_) (hx : ρ x = .pointer (some ⟨b, 0, none⟩))
    (H : Has E w ss) (hL : [Hp.one b (.cells cs T' f)] ⊆ ss.flatten) (hl : liesAt P P.depth T' (cs.size / P.cellsOf T') 0 te 1 = true) (h : K (.pointer (some ⟨b, 0, none⟩)) w) : OK P ⟨dst, .convert t u x, T, pos, after, g⟩ ρ w K := by
  obtain ⟨j, hj, _⟩ := hj
  exact OK.val (run_v (by rw [hx]; exact Lib.run_from_unsafe w ⟨b, 0, none⟩ ht hu hj (shape_of H hL) hl)) h
theorem o_extern {c x : Operand} {f : FuncId} {ts : Array TypeId} {v v' : Value} (hv : ρ c = .func (.func f) #[] #[]) (hx : ρ x = v) (hr : (callFunc f #[v]).run P w = .ok (.value v') w) (h : K v' w) :
    OK P ⟨dst, .call ⟨.value c, #[x], ts⟩, T, pos, after, g⟩ ρ w K := by
  refine OK.val ?_ h
  simp [execOp, resolve, hv, Deferred.ofValue, invoke, hx, hr]
theorem o_pneqSame {x y : Operand} {t te t2 : TypeId} {z : Value} {sz by_ : Nat} {a : Addr} (ht : P.underlying t = some (.pointer te)) (hj : TI P te z sz by_) (hx : ρ x = .pointer (some a)) (hy : ρ y = .pointer (some a)) (h : K (.bool false) w) :
    OK P ⟨dst, .binOp .neq t x y t2, T, pos, after, g⟩ ρ w K := by
  obtain ⟨j, hj, _⟩ := hj
  exact OK.val (run_v (by rw [hx, hy]; exact Lib.run_neq_ptr_same w a ht hj)) h
end
end Go.Q
namespace Go.Q
/-- a power that is on, is not armed, and was used a few times -/
structure Calm (p : Pw) (k : Nat) : Prop where
  off : p.off = false
  arm : p.armed = false
  u0 : 0 ≤ p.uses
  u1 : p.uses ≤ k
  l0 : -(k : Int) ≤ p.left
  l1 : p.left ≤ 0
theorem Calm.ok {p : Pw} {k : Nat} (h : Calm p k) (hk : k ≤ 1000000) : PwOk p := by
  obtain ⟨_, _, h1, h2, h3, h4⟩ := h
  exact ⟨h1, by omega, by omega, by omega⟩
theorem Calm.use {p : Pw} {k : Nat} (h : Calm p k) : Calm (useS p) (k + 1) := by
  obtain ⟨h1, h2, h3, h4, h5, h6⟩ := h
  unfold useS
  rw [if_neg (by rw [h1]; decide), h2]
  exact ⟨rfl, rfl, by show 0 ≤ p.uses + 1; omega, by show p.uses + 1 ≤ _; omega, by show _ ≤ p.left - 1; omega, by show p.left - 1 ≤ 0; omega⟩
theorem Calm.b {p : Pw} {k : Nat} (h : Calm p k) : useB p = true := by
  have := h.use.off
  unfold useB; rw [h.off, this]; rfl
theorem Calm.mono {p : Pw} {k m : Nat} (h : Calm p k) (hk : k ≤ m) : Calm p m := ⟨h.off, h.arm, h.u0, by have := h.u1; omega, by have := h.l0; omega, h.l1⟩
theorem Calm.back {p : Pw} {k : Nat} (h : Calm p k) : Calm (backS p) k := ⟨rfl, rfl, h.u0, h.u1, h.l0, h.l1⟩
theorem Calm.new : Calm (Pw.mk false false 0 0) 0 := ⟨rfl, rfl, by decide, by decide, by decide, by decide⟩
theorem settle_at {lo : List (Int × Bs)} (h0 : ∀ n, (getB lo n).isSome = true → 0 ≤ n) (j : Nat) : ∀ (keep : List Int) (la : List Bs), j < la.length → (settleS lo la keep)[j]? = if (j : Int) ∈ keep ∧ (getB lo (j : Int)).isSome = true then getB lo (j : Int) else la[j]?
  | [], la, _ => by simp [settleS]
  | n :: keep, la, hj => by
    show (settleS lo (match getB lo n with | some s => la.set n.toNat s | none => la) keep)[j]? = _
    cases hn : getB lo n with
    | none =>
      rw [settle_at h0 j keep la hj]
      by_cases e : (j : Int) = n
      · rw [e, hn]; simp
      · simp [List.mem_cons, e]
    | some s =>
      show (settleS lo (la.set n.toNat s) keep)[j]? = _
      rw [settle_at h0 j keep (la.set n.toNat s) (by simpa using hj)]
      have hp := h0 n (by rw [hn]; rfl)
      by_cases e : (j : Int) = n
      · subst e
        rw [hn]
        simp [hj]
      · have g : n.toNat ≠ j := by omega
        simp [List.mem_cons, e, List.getElem?_set, g]
theorem LoOk.nn {lo : List (Int × Bs)} {k : Nat} (h : LoOk lo k) : ∀ n, (getB lo n).isSome = true → 0 ≤ n := fun n g => (h.get g).1
theorem keysS_mem {lo : List (Int × Bs)} {n : Int} : n ∈ keysS lo ↔ (getB lo n).isSome = true := by
  unfold keysS; rw [(List.mergeSort_perm _ _).mem_iff, getB_mem]
/-- a text that may be a sector's -/
def okT (l : List Bs) (j : Nat) : Prop := j < l.length ∧ ((l[j]?).getD []).length ≤ 64
instance (l : List Bs) (j : Nat) : Decidable (okT l j) := inferInstanceAs (Decidable (_ ∧ _))
def secT (base l : List Bs) (j : Nat) : Bs := if okT l j then fillS ((l[j]?).getD []) else (base[j]?).getD []
theorem secT_yes {base l : List Bs} {j : Nat} {s : Bs} (h : l[j]? = some s) (hs : s.length ≤ 64) : secT base l j = fillS s := by
  have hlt := (List.getElem?_eq_some_iff.1 h).1
  unfold secT; rw [if_pos ⟨hlt, by rw [h]; exact hs⟩, h]; rfl
theorem secT_no {base l : List Bs} {j : Nat} (h : ¬ okT l j) : secT base l j = (base[j]?).getD [] := by unfold secT; rw [if_neg h]
/-- what is loose where the first i texts were written -/
def WR (k : Nat) (l : List Bs) (i : Nat) (lo : List (Int × Bs)) : Prop := (∀ j : Nat, j < k → getB lo (j : Int) = if j < i ∧ okT l j then some (fillS ((l[j]?).getD [])) else none) ∧ LoOk lo k
theorem LoOk.nil (k : Nat) : LoOk [] k := fun p h => by simp at h
theorem LoOk.put {lo : List (Int × Bs)} {k : Nat} (h : LoOk lo k) {n : Int} {s : Bs} (hn : inS n k) (hs : s.length = 64) : LoOk (putB lo n s) k := by
  intro p hp
  have : ∀ l : List (Int × Bs), p ∈ putB l n s → p = (n, s) ∨ p ∈ l := by
    intro l
    induction l with
    | nil => intro h; exact .inl (List.mem_singleton.1 h)
    | cons q t ih =>
      obtain ⟨a, u⟩ := q
      intro h
      rw [putB] at h
      split at h
      · rcases List.mem_cons.1 h with e | e
        · exact .inl e
        · exact .inr (List.mem_cons_of_mem _ e)
      · rcases List.mem_cons.1 h with e | e
        · exact .inr (by rw [e]; exact List.mem_cons_self ..)
        · rcases ih e with e | e
          · exact .inl e
          · exact .inr (List.mem_cons_of_mem _ e)
  rcases this lo hp with rfl | g
  · exact ⟨hn, hs⟩
  · exact h p g
theorem LoOk.del {lo : List (Int × Bs)} {k : Nat} (h : LoOk lo k) (n : Int) : LoOk (delB lo n) k := fun p hp => h p ((delB_sub n lo).subset hp)
theorem LoOk.write {lo : List (Int × Bs)} {k : Nat} (h : LoOk lo k) (p : Pw) (n : Int) (s : Bs) : LoOk (writeS p k lo n s) k := by
  unfold writeS
  split
  · rename_i g; exact h.put g.2.2 (fill_len g.2.1)
  · exact h
theorem WR.start (k : Nat) (l : List Bs) : WR k l 0 [] := ⟨fun j _ => by simp [getB], LoOk.nil k⟩
theorem WR.yes {k i m : Nat} {l : List Bs} {lo : List (Int × Bs)} {p : Pw} {s : Bs} (h : WR k l i lo) (hi : i < k) (hx : l[i]? = some s) (hs : s.length ≤ 64) (hp : Calm p m) : WR k l (i + 1) (writeS p k lo (i : Int) [s].flatten) := by
  have e : ([s] : List Bs).flatten = s := by simp
  have hin : inS (i : Int) k := ⟨by omega, by omega⟩
  have hw : writeS p k lo (i : Int) [s].flatten = putB lo (i : Int) (fillS s) := by unfold writeS; rw [e, if_pos ⟨hp.b, hs, hin⟩]
  have hlt := (List.getElem?_eq_some_iff.1 hx).1
  refine ⟨fun j hj => ?_, h.2.write p _ _⟩
  rw [hw, getB_put]
  by_cases g : j = i
  · subst g
    rw [if_pos rfl, if_pos ⟨by omega, hlt, by rw [hx]; exact hs⟩, hx]; rfl
  · rw [if_neg (by omega), h.1 j hj]
    by_cases c : j < i
    · simp [c, show j < i + 1 by omega]
    · simp [c, show ¬ j < i + 1 by omega]
theorem WR.no {k i : Nat} {l : List Bs} {lo : List (Int × Bs)} (h : WR k l i lo) (hx : ¬ okT l i) : WR k l (i + 1) lo := by
  refine ⟨fun j hj => ?_, h.2⟩
  rw [h.1 j hj]
  by_cases g : j = i
  · subst g; simp [hx]
  · by_cases c : j < i
    · simp [c, show j < i + 1 by omega]
    · simp [c, show ¬ j < i + 1 by omega]
theorem WR.at {k j : Nat} {l la : List Bs} {lo : List (Int × Bs)} (h : WR k l k lo) (hl : la.length = k) (hj : j < k) (keep : List Int) : (settleS lo la keep)[j]? = some (if (j : Int) ∈ keep then secT la l j else (la[j]?).getD []) := by
  rw [settle_at h.2.nn j keep la (by omega), h.1 j hj]
  have hla : la[j]? = some la[j] := List.getElem?_eq_getElem (by omega)
  by_cases c : okT l j
  · simp only [hj, c, and_self, if_true, Option.isSome_some, and_true]
    by_cases d : (j : Int) ∈ keep
    · rw [if_pos d, if_pos d]; unfold secT; rw [if_pos c]
    · rw [if_neg d, if_neg d, hla]; rfl
  · simp only [c, and_false, if_false, Option.isSome_none, Bool.false_eq_true]
    rw [hla, secT_no c]
    split <;> simp [hla]
theorem map_range_get {α : Type} (f : Nat → α) {k j : Nat} (hj : j < k) : ((List.range k).map f)[j]? = some (f j) := by
  rw [List.getElem?_map, List.getElem?_range hj]; rfl
theorem WR.sync {k : Nat} {l la : List Bs} {lo : List (Int × Bs)} (h : WR k l k lo) (hl : la.length = k) : settleS lo la (keysS lo) = (List.range k).map (secT la l) := by
  refine List.ext_getElem? fun j => ?_
  rcases Nat.lt_or_ge j k with hj | hj
  · rw [h.at hl hj, map_range_get _ hj]
    by_cases c : okT l j
    · rw [if_pos (keysS_mem.2 (by rw [h.1 j hj, if_pos ⟨hj, c⟩]; rfl))]
    · rw [secT_no c]; simp
  · rw [List.getElem?_eq_none (by rw [settle_len]; omega), List.getElem?_eq_none (by simp; omega)]
theorem sync_calm {p : Pw} {k : Nat} (h : Calm p k) (la : List Bs) (lo : List (Int × Bs)) : syncE p = 0 ∧ syncA p la lo = settleS lo la (keysS lo) ∧ syncO p lo = [] := by
  unfold syncE syncA syncO; rw [h.b]; exact ⟨rfl, rfl, rfl⟩
theorem read_calm {p : Pw} {k : Nat} (h : Calm p k) {la : List Bs} {n : Int} (hn : inS n la.length) : readS p la [] n = (la[n.toNat]?).getD [] ∧ readE p la n = 0 := by
  unfold readS readE; rw [h.off]; simp [hn, getB]
theorem set_last {α : Type} (l : List α) (a b : α) {n : Int} (h : n = (l.length : Int)) : (l ++ [a]).set n.toNat b = l ++ [b] := by
  subst h; simp
theorem range_snoc {α : Type} (f : Nat → α) (k : Nat) : (List.range (k + 1)).map f = (List.range k).map f ++ [f k] := by rw [List.range_succ, List.map_append]; rfl
theorem keys_nil : keysS ([] : List (Int × Bs)) = [] := by simp [keysS]
end Go.Q
namespace Go.Q
theorem sub_perm : ∀ {S R : List Hp}, S.Nodup → S ⊆ R → ∃ rest, R.Perm (S ++ rest)
  | [], R, _, _ => ⟨R, .refl _⟩
  | a :: S, R, hn, hs => by
    obtain ⟨l1, l2, rfl⟩ := List.append_of_mem (hs List.mem_cons_self)
    obtain ⟨rest, h⟩ := sub_perm (S := S) (R := l1 ++ l2) (List.nodup_cons.1 hn).2 (fun x hx => by
      have g := hs (List.mem_cons_of_mem _ hx)
      have hne : x ≠ a := fun e => (List.nodup_cons.1 hn).1 (e ▸ hx)
      simp only [List.mem_append, List.mem_cons] at g ⊢
      rcases g with g | g | g
      · exact .inl g
      · exact absurd g hne
      · exact .inr g)
    exact ⟨rest, List.perm_middle.trans (h.cons a)⟩
theorem Has.part {E w : World} {S R : List Hp} (H : Has E w [R]) (hn : S.Nodup) (hs : S ⊆ R) : ∃ rest, R.Perm (S ++ rest) ∧ Has E w [S, rest] := by
  obtain ⟨rest, hp⟩ := sub_perm hn hs
  refine ⟨rest, hp, ?_⟩
  have h0 : Has0 E w R := by simpa [Has] using H
  have h1 := h0.perm hp.symm
  simpa [Has] using h1
theorem Has.parted {E w : World} {M S R rest : List Hp} (hp : R.Perm (S ++ rest)) (H : Has E w [M, S, rest]) : Has E w [M, R] := by
  have h0 : Has0 E w (M ++ (S ++ rest)) := by simpa [Has] using H
  have h1 := h0.perm (hp.append_left M)
  simpa [Has] using h1
theorem Calls.inside {P : Program} {f : FuncId} {args : Array Value} {E w : World} {S R : List Hp} {Q : Ending → Prop} (H : Has E w [R]) (hn : S.Nodup) (hs : S ⊆ R)
    (c : ∀ R', Has E w [S, R'] → Calls P f args w fun e w' => Q e ∧ Has E w' [S, R']) : Calls P f args w fun e w' => Q e ∧ Has E w' [R] := by
  obtain ⟨rest, hp, H2⟩ := H.part hn hs
  exact (c rest H2).mono fun e w' ⟨he, h⟩ => ⟨he, by
    have h0 : Has0 E w' (S ++ rest) := by simpa [Has] using h
    have h1 := h0.perm hp
    simpa [Has] using h1⟩
theorem Calls.insideM {α : Type} {P : Program} {f : FuncId} {args : Array Value} {E w : World} {S R : List Hp} {Q : Ending → α → List Hp → Prop} (H : Has E w [R]) (hn : S.Nodup) (hs : S ⊆ R)
    (c : ∀ R', Has E w [S, R'] → Calls P f args w fun e w' => ∃ a M, Q e a M ∧ Has E w' [M, S, R']) : Calls P f args w fun e w' => ∃ a M, Q e a M ∧ Has E w' [M, R] := by
  obtain ⟨rest, hp, H2⟩ := H.part hn hs
  exact (c rest H2).mono fun e w' ⟨a, M, he, h⟩ => ⟨a, M, he, h.parted hp⟩
theorem Has.open2 {E w : World} {a b : List Hp} {ss : List (List Hp)} (H : Has E w ((a ++ b) :: ss)) : Has E w (a :: b :: ss) := by
  unfold Has at *; simpa [List.append_assoc] using H
theorem Has.close2 {E w : World} {a b : List Hp} {ss : List (List Hp)} (H : Has E w (a :: b :: ss)) : Has E w ((a ++ b) :: ss) := by
  unfold Has at *; simpa [List.append_assoc] using H
theorem Has.close2' {E w : World} {x a b : List Hp} {ss : List (List Hp)} (H : Has E w (x :: a :: b :: ss)) : Has E w (x :: (a ++ b) :: ss) := by
  unfold Has at *; simpa [List.append_assoc] using H
/-- no heaplet of these is empty -/
def Full (S : List Hp) : Prop := ∀ h ∈ S, ∃ b o, h b = some o
theorem Full.one (b : Nat) (o : Obj) : Full [Hp.one b o] := fun h hh => ⟨b, o, by rw [List.mem_singleton.1 hh]; exact Hp.one_at b o⟩
theorem Full.app {S T : List Hp} (h : Full S) (g : Full T) : Full (S ++ T) := fun x hx => (List.mem_append.1 hx).elim (h x) (g x)
theorem Full.nodup {E w : World} {S : List Hp} {ss : List (List Hp)} (hf : Full S) (H : Has E w (S :: ss)) : S.Nodup := by
  have h0 : Has0 E w (S ++ ss.flatten) := by simpa [Has] using H
  have h1 : S.Pairwise Hp.dis := h0.dj.sublist (List.sublist_append_left _ _)
  refine List.Pairwise.imp_of_mem (fun {a b} ha hb d e => ?_) h1
  subst e
  obtain ⟨x, o, hx⟩ := hf a ha
  rcases d x with g | g <;> rw [hx] at g <;> cases g
theorem Own.full {e sz n : Nat} {v : Value} {cs : List Value} {hs : List Hp} (h : Own e sz v n cs hs) : Full hs := by
  obtain ⟨_, ⟨_, _, h⟩ | ⟨b, cap, cur, _, h, _⟩⟩ := h
  · subst h; exact fun x hx => by cases hx
  · subst h; exact Full.one _ _
theorem in_sub {a b l : List Hp} (h : a ⊆ l) (g : b ⊆ l) : a ++ b ⊆ l := fun x hx => (List.mem_append.1 hx).elim (fun y => h y) (fun y => g y)
-- what stays, whatever is done
theorem LoOk.sync {lo : List (Int × Bs)} {k : Nat} (h : LoOk lo k) (p : Pw) : LoOk (syncO p lo) k := by
  unfold syncO; split
  · exact LoOk.nil k
  · exact h
theorem syncA_len (p : Pw) (la : List Bs) (lo : List (Int × Bs)) : (syncA p la lo).length = la.length := by
  unfold syncA; split
  · exact settle_len _ _ _
  · rfl
theorem putA_len (la : List Bs) (n : Int) (s : Bs) : (putA la n s).length = la.length := by
  unfold putA; split <;> simp
theorem LoOk.puto {lo : List (Int × Bs)} {k m : Nat} (h : LoOk lo k) (n : Int) (s : Bs) : LoOk (putO m lo n s) k := by
  unfold putO; split
  · exact h.del n
  · exact h
theorem readE_on {p : Pw} {la : List Bs} {n : Int} (h : p.off = false) (hn : inS n la.length) : readE p la n = 0 := by unfold readE; rw [h]; simp [hn]
theorem readS_on {p q : Pw} {la : List Bs} {lo : List (Int × Bs)} {n : Int} (h : p.off = false) (g : q.off = false) : readS p la lo n = readS q la lo n := by unfold readS; rw [h, g]
end Go.Q
namespace Go.Q
open Go.Proofs
set_option linter.unusedVariables false
set_option maxRecDepth 100000
attribute [local irreducible] wpList OK Code.wp
set_option maxHeartbeats 4000000 in
theorem cc_f {E w : World} {R : List Hp} {bb : Nat} {v : Value} (hH : Has E w [[Hp.one bb (.cells #[(.pointer none), v] 90 (0, 0))], R]) :
    Calls Tryd.prog 86 #[(.pointer (some ⟨bb, 0, none⟩))] w fun e w' => e = .returned (.tuple #[]) ∧ Has E w' [[Hp.one bb (.cells #[(.pointer (some ⟨bb, 0, none⟩)), v] 90 (0, 0))], R] := by
  refine c_enter (args := [(.pointer (some ⟨bb, 0, none⟩))]) Tryd.func86 rfl Tryd.ntmps86 (by simp) ?_
  refine wp_seq_k fun K1 hK1 => ?_
  refine c_region ?_
  refine s_op (o_move (v := (.pointer (some ⟨bb, 0, none⟩))) rfl ?_)
  refine s_op (o_nilCheck rfl ?_)
  refine s_op (o_fieldAddr (k := 0) (fun _ => by kernel_rfl) rfl ?_)
  refine s_op (o_load1 (v := (.pointer none)) Tryd.underlying88 rfl rfl hH (seg_sub 0 rfl) (CellsAt.one rfl) ?_)
  refine s_op (o_pnil (p := none) Tryd.underlying88 rfl rfl ?_)
  refine s_nil ?_
  refine t_norm (hK1 _ _ ?_)
  refine c_true rfl rfl ?_
  refine c_region ?_
  refine s_op (o_move (v := (.pointer (some ⟨bb, 0, none⟩))) rfl ?_)
  refine s_op (o_move (v := (.pointer (some ⟨bb, 0, none⟩))) rfl ?_)
  refine s_op (o_toUnsafe Tryd.underlying88 Tryd.underlying150 ti90 (by decide) rfl hH (seg_sub 0 rfl) (Nat.zero_lt_succ 1) ?_)
  refine s_op (o_extern (v' := (.pointer (some ⟨bb, 0, none⟩))) rfl rfl (by rw [run_callFunc_extern Tryd.func111 (by kernel_rfl) (by kernel_rfl) (by kernel_rfl) (e := Extern.AbiNoEscape.same) (by kernel_rfl), Lib.run_noEscape]; rfl) ?_)
  refine s_op (o_fromUnsafe Tryd.underlying150 Tryd.underlying88 ti90 rfl hH (seg_sub 0 rfl) (by kernel_rfl) ?_)
  refine s_op (o_nilCheck rfl ?_)
  refine s_op (o_fieldAddr (k := 0) (fun _ => by kernel_rfl) rfl ?_)
  refine s_eff (o_store1 (c' := #[(.pointer (some ⟨bb, 0, none⟩)), v]) ti88 rfl rfl rfl (by simp) rfl (hH.front 0 rfl) fun w2 hH3 => ?_)
  refine s_nil ?_
  refine c_end0 Tryd.results86  ?_
  exact ⟨rfl, hH3⟩
set_option maxHeartbeats 4000000 in
theorem cc_u {E w : World} {R : List Hp} {bb : Nat} {v : Value} (hH : Has E w [[Hp.one bb (.cells #[(.pointer (some ⟨bb, 0, none⟩)), v] 90 (0, 0))], R]) :
    Calls Tryd.prog 86 #[(.pointer (some ⟨bb, 0, none⟩))] w fun e w' => e = .returned (.tuple #[]) ∧ Has E w' [[Hp.one bb (.cells #[(.pointer (some ⟨bb, 0, none⟩)), v] 90 (0, 0))], R] := by
  refine c_enter (args := [(.pointer (some ⟨bb, 0, none⟩))]) Tryd.func86 rfl Tryd.ntmps86 (by simp) ?_
  refine wp_seq_k fun K1 hK1 => ?_
  refine c_region ?_
  refine s_op (o_move (v := (.pointer (some ⟨bb, 0, none⟩))) rfl ?_)
  refine s_op (o_nilCheck rfl ?_)
  refine s_op (o_fieldAddr (k := 0) (fun _ => by kernel_rfl) rfl ?_)
  refine s_op (o_load1 (v := (.pointer (some ⟨bb, 0, none⟩))) Tryd.underlying88 rfl rfl hH (seg_sub 0 rfl) (CellsAt.one rfl) ?_)
  refine s_op (o_pnil (p := some _) Tryd.underlying88 rfl rfl ?_)
  refine s_nil ?_
  refine t_norm (hK1 _ _ ?_)
  refine c_false rfl rfl ?_
  refine wp_seq_k fun K2 hK2 => ?_
  refine c_region ?_
  refine s_op (o_move (v := (.pointer (some ⟨bb, 0, none⟩))) rfl ?_)
  refine s_op (o_nilCheck rfl ?_)
  refine s_op (o_fieldAddr (k := 0) (fun _ => by kernel_rfl) rfl ?_)
  refine s_op (o_load1 (v := (.pointer (some ⟨bb, 0, none⟩))) Tryd.underlying88 rfl rfl hH (seg_sub 0 rfl) (CellsAt.one rfl) ?_)
  refine s_op (o_move (v := (.pointer (some ⟨bb, 0, none⟩))) rfl ?_)
  refine s_op (o_pneqSame Tryd.underlying88 ti90 rfl rfl ?_)
  refine s_nil ?_
  refine t_norm (hK2 _ _ ?_)
  refine c_false rfl rfl ?_
  refine wp_skip ?_
  refine c_end0 Tryd.results86  ?_
  exact ⟨rfl, hH⟩
set_option maxHeartbeats 4000000 in
theorem ws_f {E w : World} {R hs : List Hp} {bb : Nat} {v : Value} {l : List UInt8} (hH : Has E w [hs, [Hp.one bb (.cells #[(.pointer none), v] 90 (0, 0))], R]) (ho : Own 5 1 v l.length (l.map bV) hs) (hnil : l = [] → v = .slice none 0 0) (s : List UInt8) (hb : l.length + s.length ≤ 140737488355328) :
    Calls Tryd.prog 52 #[(.pointer (some ⟨bb, 0, none⟩)), (S s)] w fun e w' => ∃ v' hs', e = .returned (.tuple #[.int .i64 (s.length : Int), .nilIface]) ∧ Own 5 1 v' (l ++ s).length ((l ++ s).map bV) hs' ∧ (l ++ s = [] → v' = .slice none 0 0) ∧ Has E w' [hs', [Hp.one bb (.cells #[(.pointer (some ⟨bb, 0, none⟩)), v'] 90 (0, 0))], R] := by
  refine c_enter (args := [(.pointer (some ⟨bb, 0, none⟩)), (S s)]) Tryd.func52 rfl Tryd.ntmps52 (by simp) ?_
  refine wp_seq_k fun K1 hK1 => ?_
  refine c_region ?_
  refine s_op (o_assign (v := (.int .i64 0)) rfl ?_)
  refine s_op (o_assign (v := Value.nilIface) rfl ?_)
  refine s_nil ?_
  refine t_norm (hK1 _ _ ?_)
  refine wp_seq_k fun K2 hK2 => ?_
  refine c_region ?_
  refine s_op (o_move (v := (.pointer (some ⟨bb, 0, none⟩))) rfl ?_)
  refine s_op (o_callf (vs := #[(.pointer (some ⟨bb, 0, none⟩))]) ca86 rfl (args1 rfl) (cc_f (hH.front 1 rfl).all1) ?_)
  rintro _ w5 ⟨rfl, hX3⟩
  refine ⟨_, rfl, ?_⟩
  have hH4 : Has E w5 [[Hp.one bb (.cells #[(.pointer (some ⟨bb, 0, none⟩)), v] 90 (0, 0))], hs, R] := hX3.of_all1
  refine s_nil ?_
  refine t_norm (hK2 _ _ ?_)
  refine wp_seq_k fun K6 hK6 => ?_
  refine c_region ?_
  refine s_op (o_move (v := (.pointer (some ⟨bb, 0, none⟩))) rfl ?_)
  refine s_op (o_move (v := (.pointer (some ⟨bb, 0, none⟩))) rfl ?_)
  refine s_op (o_nilCheck rfl ?_)
  refine s_op (o_fieldAddr (k := 1) (fun _ => by kernel_rfl) rfl ?_)
  refine s_op (o_load1 (v := v) Tryd.underlying55 rfl rfl hH4 (seg_sub 0 rfl) (CellsAt.one rfl) ?_)
  refine s_op (o_move (v := (S s)) rfl ?_)
  refine s_op (o_appstr Tryd.underlying55 Tryd.underlying9 ti5 rfl ho rfl (hH4.front 1 rfl) (by omega) fun v7 s8 w11 ho9 hn10 hH12 => ?_)
  have ho9 : Own 5 1 v7 (l ++ s).length ((l ++ s).map bV) s8 := by rw [List.length_append, List.map_append]; exact ho9
  refine s_op (o_nilCheck rfl ?_)
  refine s_op (o_fieldAddr (k := 1) (fun _ => by kernel_rfl) rfl ?_)
  refine s_eff (o_store1 (c' := #[(.pointer (some ⟨bb, 0, none⟩)), v7]) ti55 rfl rfl ho9.one (by simp) rfl (hH12.front 1 rfl) fun w13 hH14 => ?_)
  refine s_nil ?_
  refine t_norm (hK6 _ _ ?_)
  refine wp_seq_k fun K15 hK15 => ?_
  refine c_region ?_
  refine s_op (o_move (v := (S s)) rfl ?_)
  refine s_op (o_slen Tryd.underlying9 rfl ?_)
  refine s_op (o_assign (v := (.int .i64 (s.length : Int))) rfl ?_)
  refine s_op (o_assign (v := Value.nilIface) rfl ?_)
  refine s_nil ?_
  refine t_norm (hK15 _ _ ?_)
  refine wp_ret ?_
  refine c_ret2 Tryd.results52  (v := (.int .i64 (s.length : Int))) rfl (x := Value.nilIface) rfl ?_
  have hH16 : Has E w13 [s8, [Hp.one bb (.cells #[(.pointer (some ⟨bb, 0, none⟩)), v7] 90 (0, 0))], R] := (((hH14.front 2 rfl).front 1 rfl).front 2 rfl).first 3 rfl
  exact ⟨_, _, rfl, ho9, fun h => hn10 (hnil (List.append_eq_nil_iff.1 h).1) (List.append_eq_nil_iff.1 h).2, hH16⟩
set_option maxHeartbeats 4000000 in
theorem ws_u {E w : World} {R hs : List Hp} {bb : Nat} {v : Value} {l : List UInt8} (hH : Has E w [hs, [Hp.one bb (.cells #[(.pointer (some ⟨bb, 0, none⟩)), v] 90 (0, 0))], R]) (ho : Own 5 1 v l.length (l.map bV) hs) (hnil : l = [] → v = .slice none 0 0) (s : List UInt8) (hb : l.length + s.length ≤ 140737488355328) :
    Calls Tryd.prog 52 #[(.pointer (some ⟨bb, 0, none⟩)), (S s)] w fun e w' => ∃ v' hs', e = .returned (.tuple #[.int .i64 (s.length : Int), .nilIface]) ∧ Own 5 1 v' (l ++ s).length ((l ++ s).map bV) hs' ∧ (l ++ s = [] → v' = .slice none 0 0) ∧ Has E w' [hs', [Hp.one bb (.cells #[(.pointer (some ⟨bb, 0, none⟩)), v'] 90 (0, 0))], R] := by
  refine c_enter (args := [(.pointer (some ⟨bb, 0, none⟩)), (S s)]) Tryd.func52 rfl Tryd.ntmps52 (by simp) ?_
  refine wp_seq_k fun K1 hK1 => ?_
  refine c_region ?_
  refine s_op (o_assign (v := (.int .i64 0)) rfl ?_)
  refine s_op (o_assign (v := Value.nilIface) rfl ?_)
  refine s_nil ?_
  refine t_norm (hK1 _ _ ?_)
  refine wp_seq_k fun K2 hK2 => ?_
  refine c_region ?_
  refine s_op (o_move (v := (.pointer (some ⟨bb, 0, none⟩))) rfl ?_)
  refine s_op (o_callf (vs := #[(.pointer (some ⟨bb, 0, none⟩))]) ca86 rfl (args1 rfl) (cc_u (hH.front 1 rfl).all1) ?_)
  rintro _ w5 ⟨rfl, hX3⟩
  refine ⟨_, rfl, ?_⟩
  have hH4 : Has E w5 [[Hp.one bb (.cells #[(.pointer (some ⟨bb, 0, none⟩)), v] 90 (0, 0))], hs, R] := hX3.of_all1
  refine s_nil ?_
  refine t_norm (hK2 _ _ ?_)
  refine wp_seq_k fun K6 hK6 => ?_
  refine c_region ?_
  refine s_op (o_move (v := (.pointer (some ⟨bb, 0, none⟩))) rfl ?_)
  refine s_op (o_move (v := (.pointer (some ⟨bb, 0, none⟩))) rfl ?_)
  refine s_op (o_nilCheck rfl ?_)
  refine s_op (o_fieldAddr (k := 1) (fun _ => by kernel_rfl) rfl ?_)
  refine s_op (o_load1 (v := v) Tryd.underlying55 rfl rfl hH4 (seg_sub 0 rfl) (CellsAt.one rfl) ?_)
  refine s_op (o_move (v := (S s)) rfl ?_)
  refine s_op (o_appstr Tryd.underlying55 Tryd.underlying9 ti5 rfl ho rfl (hH4.front 1 rfl) (by omega) fun v7 s8 w11 ho9 hn10 hH12 => ?_)
  have ho9 : Own 5 1 v7 (l ++ s).length ((l ++ s).map bV) s8 := by rw [List.length_append, List.map_append]; exact ho9
  refine s_op (o_nilCheck rfl ?_)
  refine s_op (o_fieldAddr (k := 1) (fun _ => by kernel_rfl) rfl ?_)
  refine s_eff (o_store1 (c' := #[(.pointer (some ⟨bb, 0, none⟩)), v7]) ti55 rfl rfl ho9.one (by simp) rfl (hH12.front 1 rfl) fun w13 hH14 => ?_)
  refine s_nil ?_
  refine t_norm (hK6 _ _ ?_)
  refine wp_seq_k fun K15 hK15 => ?_
  refine c_region ?_
  refine s_op (o_move (v := (S s)) rfl ?_)
  refine s_op (o_slen Tryd.underlying9 rfl ?_)
  refine s_op (o_assign (v := (.int .i64 (s.length : Int))) rfl ?_)
  refine s_op (o_assign (v := Value.nilIface) rfl ?_)
  refine s_nil ?_
  refine t_norm (hK15 _ _ ?_)
  refine wp_ret ?_
  refine c_ret2 Tryd.results52  (v := (.int .i64 (s.length : Int))) rfl (x := Value.nilIface) rfl ?_
  have hH16 : Has E w13 [s8, [Hp.one bb (.cells #[(.pointer (some ⟨bb, 0, none⟩)), v7] 90 (0, 0))], R] := (((hH14.front 2 rfl).front 1 rfl).front 2 rfl).first 3 rfl
  exact ⟨_, _, rfl, ho9, fun h => hn10 (hnil (List.append_eq_nil_iff.1 h).1) (List.append_eq_nil_iff.1 h).2, hH16⟩
set_option maxHeartbeats 4000000 in
theorem bs_nil {E w : World} {R : List Hp} {bb : Nat} {a : Value} (hH : Has E w [[Hp.one bb (.cells #[a, (.slice none 0 0)] 90 (0, 0))], R]) :
    Calls Tryd.prog 56 #[(.pointer (some ⟨bb, 0, none⟩))] w fun e w' => e = .returned (S ([] : List UInt8)) ∧ Has E w' [R] := by
  refine c_enter (args := [(.pointer (some ⟨bb, 0, none⟩))]) Tryd.func56 rfl Tryd.ntmps56 (by simp) ?_
  refine wp_seq_k fun K1 hK1 => ?_
  refine c_region ?_
  refine s_op (o_assign (v := (S ([] : List UInt8))) rfl ?_)
  refine s_nil ?_
  refine t_norm (hK1 _ _ ?_)
  refine wp_seq_k fun K2 hK2 => ?_
  refine Rest.region mixed (by kernel_rfl) ?_
  have hH3 : Has E { w with drawn := w.drawn + 1 } [[Hp.one bb (.cells #[a, (.slice none 0 0)] 90 (0, 0))], R] := Has0.drew hH _
  refine Rest.phaseA (fun w_ => Has E w_ [[Hp.one bb (.cells #[a, (.slice none 0 0)] 90 (0, 0))]]) 0 10 10 rfl (by decide) (by kernel_rfl) ?_
  refine a_op 0 rfl (by kernel_rfl) (fun w_ h_ => o_move (v := (.pointer (some ⟨bb, 0, none⟩))) rfl ⟨rfl, rfl⟩) ?_
  refine a_op 1 rfl (by kernel_rfl) (fun w_ h_ => o_nilCheck rfl ⟨rfl, rfl⟩) ?_
  refine a_op 2 rfl (by kernel_rfl) (fun w_ h_ => o_fieldAddr (k := 1) (fun _ => by kernel_rfl) rfl ⟨rfl, rfl⟩) ?_
  refine a_op 3 rfl (by kernel_rfl) (fun w_ h_ => o_load1 (v := (.slice none 0 0)) Tryd.underlying55 rfl rfl h_ (seg_sub 0 rfl) (CellsAt.one rfl) ⟨rfl, rfl⟩) ?_
  refine a_op 5 rfl (by kernel_rfl) (fun w_ h_ => o_move (v := (.pointer (some ⟨bb, 0, none⟩))) rfl ⟨rfl, rfl⟩) ?_
  refine a_op 6 rfl (by kernel_rfl) (fun w_ h_ => o_nilCheck rfl ⟨rfl, rfl⟩) ?_
  refine a_op 7 rfl (by kernel_rfl) (fun w_ h_ => o_fieldAddr (k := 1) (fun _ => by kernel_rfl) rfl ⟨rfl, rfl⟩) ?_
  refine a_op 8 rfl (by kernel_rfl) (fun w_ h_ => o_load1 (v := (.slice none 0 0)) Tryd.underlying55 rfl rfl h_ (seg_sub 0 rfl) (CellsAt.one rfl) ⟨rfl, rfl⟩) ?_
  refine a_op 9 rfl (by kernel_rfl) (fun w_ h_ => o_lenS Tryd.underlying55 rfl (sl_nil (L := []) 1) ⟨rfl, rfl⟩) ?_
  have hH4 : Has E { w with drawn := w.drawn + 1 } [[Hp.one bb (.cells #[a, (.slice none 0 0)] 90 (0, 0))]] := hH3.first 1 rfl
  refine a_w 4 rfl (by kernel_rfl) hH4 (o_uSDnil rfl ?_)
  have hH5 : Has E { w with drawn := w.drawn + 1 } [[Hp.one bb (.cells #[a, (.slice none 0 0)] 90 (0, 0))]] := hH3.first 1 rfl
  refine a_done (by kernel_rfl) hH5 ?_
  refine r_op 10 rfl (by kernel_rfl) (o_uStrNil rfl rfl ?_)
  refine r_op 11 rfl (by kernel_rfl) (o_assign (v := (S ([] : List UInt8))) rfl ?_)
  refine Rest.done (by kernel_rfl) ?_
  refine t_norm (hK2 _ _ ?_)
  refine wp_ret ?_
  refine c_ret1 Tryd.results56  (v := (S ([] : List UInt8))) rfl ?_
  have hH6 : Has E { w with drawn := w.drawn + 1 } [R] := (hH3.front 1 rfl).first 1 rfl
  exact ⟨rfl, hH6⟩
set_option maxHeartbeats 4000000 in
theorem bs_row {E w : World} {R : List Hp} {bb : Nat} {a : Value} {g cap : Nat} {hs : List Hp} {l : List UInt8} (hH : Has E w [hs, [Hp.one bb (.cells #[a, (.slice (some ⟨g, 0, none⟩) l.length cap)] 90 (0, 0))], R]) (ho : Own 5 1 (.slice (some ⟨g, 0, none⟩) l.length cap) l.length (l.map bV) hs) (hne : l ≠ []) (hcap : cap ≠ 0) :
    Calls Tryd.prog 56 #[(.pointer (some ⟨bb, 0, none⟩))] w fun e w' => e = .returned (S l) ∧ Has E w' [R] := by
  refine c_enter (args := [(.pointer (some ⟨bb, 0, none⟩))]) Tryd.func56 rfl Tryd.ntmps56 (by simp) ?_
  refine wp_seq_k fun K1 hK1 => ?_
  refine c_region ?_
  refine s_op (o_assign (v := (S ([] : List UInt8))) rfl ?_)
  refine s_nil ?_
  refine t_norm (hK1 _ _ ?_)
  refine wp_seq_k fun K2 hK2 => ?_
  refine Rest.region mixed (by kernel_rfl) ?_
  have hH3 : Has E { w with drawn := w.drawn + 1 } [hs, [Hp.one bb (.cells #[a, (.slice (some ⟨g, 0, none⟩) l.length cap)] 90 (0, 0))], R] := Has0.drew hH _
  refine Rest.phaseA (fun w_ => Has E w_ [[Hp.one bb (.cells #[a, (.slice (some ⟨g, 0, none⟩) l.length cap)] 90 (0, 0))]]) 0 10 10 rfl (by decide) (by kernel_rfl) ?_
  refine a_op 0 rfl (by kernel_rfl) (fun w_ h_ => o_move (v := (.pointer (some ⟨bb, 0, none⟩))) rfl ⟨rfl, rfl⟩) ?_
  refine a_op 1 rfl (by kernel_rfl) (fun w_ h_ => o_nilCheck rfl ⟨rfl, rfl⟩) ?_
  refine a_op 2 rfl (by kernel_rfl) (fun w_ h_ => o_fieldAddr (k := 1) (fun _ => by kernel_rfl) rfl ⟨rfl, rfl⟩) ?_
  refine a_op 3 rfl (by kernel_rfl) (fun w_ h_ => o_load1 (v := (.slice (some ⟨g, 0, none⟩) l.length cap)) Tryd.underlying55 rfl rfl h_ (seg_sub 0 rfl) (CellsAt.one rfl) ⟨rfl, rfl⟩) ?_
  refine a_op 5 rfl (by kernel_rfl) (fun w_ h_ => o_move (v := (.pointer (some ⟨bb, 0, none⟩))) rfl ⟨rfl, rfl⟩) ?_
  refine a_op 6 rfl (by kernel_rfl) (fun w_ h_ => o_nilCheck rfl ⟨rfl, rfl⟩) ?_
  refine a_op 7 rfl (by kernel_rfl) (fun w_ h_ => o_fieldAddr (k := 1) (fun _ => by kernel_rfl) rfl ⟨rfl, rfl⟩) ?_
  refine a_op 8 rfl (by kernel_rfl) (fun w_ h_ => o_load1 (v := (.slice (some ⟨g, 0, none⟩) l.length cap)) Tryd.underlying55 rfl rfl h_ (seg_sub 0 rfl) (CellsAt.one rfl) ⟨rfl, rfl⟩) ?_
  refine a_op 9 rfl (by kernel_rfl) (fun w_ h_ => o_lenS Tryd.underlying55 rfl ho.sl ⟨rfl, rfl⟩) ?_
  have hH4 : Has E { w with drawn := w.drawn + 1 } [[Hp.one bb (.cells #[a, (.slice (some ⟨g, 0, none⟩) l.length cap)] 90 (0, 0))]] := (hH3.front 1 rfl).first 1 rfl
  refine a_w 4 rfl (by kernel_rfl) hH4 (o_uSD (a := ⟨g, 0, none⟩) rfl hcap ?_)
  have hH5 : Has E { w with drawn := w.drawn + 1 } [[Hp.one bb (.cells #[a, (.slice (some ⟨g, 0, none⟩) l.length cap)] 90 (0, 0))]] := (hH3.front 1 rfl).first 1 rfl
  refine a_done (by kernel_rfl) hH5 ?_
  refine r_op 10 rfl (by kernel_rfl) (o_uStr Tryd.underlying131 (by kernel_rfl) rfl rfl ho hne hH3 fun w6 hH7 => ?_)
  refine r_op 11 rfl (by kernel_rfl) (o_assign (v := (S l)) rfl ?_)
  refine Rest.done (by kernel_rfl) ?_
  refine t_norm (hK2 _ _ ?_)
  refine wp_ret ?_
  refine c_ret1 Tryd.results56  (v := (S l)) rfl ?_
  have hH8 : Has E w6 [R] := (hH7.front 1 rfl).first 1 rfl
  exact ⟨rfl, hH8⟩
/-- A builder that holds these bytes. -/
def Bld (b : Nat) (l : List UInt8) (sg : List Hp) : Prop := ∃ a v hs, sg = hs ++ [Hp.one b (.cells #[a, v] 90 (0, 0))] ∧ (a = .pointer none ∨ a = .pointer (some ⟨b, 0, none⟩)) ∧ Own 5 1 v l.length (l.map bV) hs ∧ (l = [] → v = .slice none 0 0)
theorem Bld.new (b : Nat) : Bld b [] [Hp.one b (.cells #[.pointer none, .slice none 0 0] 90 (0, 0))] := ⟨_, _, [], rfl, .inl rfl, Own.nil 5 1, fun _ => rfl⟩
theorem bws {E w : World} {R sg : List Hp} {b : Nat} {l : List UInt8} (hH : Has E w [sg, R]) (hB : Bld b l sg) (s : List UInt8) (hb : l.length + s.length ≤ 140737488355328) :
    Calls Tryd.prog 52 #[.pointer (some ⟨b, 0, none⟩), S s] w fun e w' => ∃ sg', e = .returned (.tuple #[.int .i64 (s.length : Int), .nilIface]) ∧ Bld b (l ++ s) sg' ∧ Has E w' [sg', R] := by
  obtain ⟨a, v, hs, rfl, rfl | rfl, ho, hn⟩ := hB
  · exact (ws_f hH.open2 ho hn s hb).mono fun e w' ⟨v', hs', he, ho', hn', hH'⟩ => ⟨_, he, ⟨_, _, _, rfl, .inr rfl, ho', hn'⟩, hH'.close2⟩
  · exact (ws_u hH.open2 ho hn s hb).mono fun e w' ⟨v', hs', he, ho', hn', hH'⟩ => ⟨_, he, ⟨_, _, _, rfl, .inr rfl, ho', hn'⟩, hH'.close2⟩
theorem bstr {E w : World} {R sg : List Hp} {b : Nat} {l : List UInt8} (hH : Has E w [sg, R]) (hB : Bld b l sg) :
    Calls Tryd.prog 56 #[.pointer (some ⟨b, 0, none⟩)] w fun e w' => e = .returned (S l) ∧ Has E w' [R] := by
  obtain ⟨a, v, hs, rfl, _, ho, hn⟩ := hB
  by_cases hl : l = []
  · obtain rfl := hn hl
    subst hl
    exact bs_nil hH.open2.drop
  · have ho2 := ho
    obtain ⟨hlc, ⟨_, h, _⟩ | ⟨g, cap, cur, rfl, rfl, hnc, _⟩⟩ := ho
    · exact absurd (List.eq_nil_of_length_eq_zero h) hl
    · exact bs_row hH.open2 ho2 hl (fun e => hl (List.eq_nil_of_length_eq_zero (by omega)))
end Go.Q
namespace Go.Q
open Go.Proofs
set_option linter.unusedVariables false
set_option maxRecDepth 100000
attribute [local irreducible] wpList OK Code.wp
set_option maxHeartbeats 4000000 in
theorem bsK_nil {E w : World} {R : List Hp} {bb : Nat} {a : Value} (hH : Has E w [[Hp.one bb (.cells #[a, (.slice none 0 0)] 90 (0, 0))], R]) :
    Calls Tryd.prog 56 #[(.pointer (some ⟨bb, 0, none⟩))] w fun e w' => e = .returned (S ([] : List UInt8)) ∧ Has E w' [[Hp.one bb (.cells #[a, (.slice none 0 0)] 90 (0, 0))], R] := by
  refine c_enter (args := [(.pointer (some ⟨bb, 0, none⟩))]) Tryd.func56 rfl Tryd.ntmps56 (by simp) ?_
  refine wp_seq_k fun K1 hK1 => ?_
  refine c_region ?_
  refine s_op (o_assign (v := (S ([] : List UInt8))) rfl ?_)
  refine s_nil ?_
  refine t_norm (hK1 _ _ ?_)
  refine wp_seq_k fun K2 hK2 => ?_
  refine Rest.region mixed (by kernel_rfl) ?_
  have hH3 : Has E { w with drawn := w.drawn + 1 } [[Hp.one bb (.cells #[a, (.slice none 0 0)] 90 (0, 0))], R] := Has0.drew hH _
  refine Rest.phaseA (fun w_ => Has E w_ [[Hp.one bb (.cells #[a, (.slice none 0 0)] 90 (0, 0))]]) 0 10 10 rfl (by decide) (by kernel_rfl) ?_
  refine a_op 0 rfl (by kernel_rfl) (fun w_ h_ => o_move (v := (.pointer (some ⟨bb, 0, none⟩))) rfl ⟨rfl, rfl⟩) ?_
  refine a_op 1 rfl (by kernel_rfl) (fun w_ h_ => o_nilCheck rfl ⟨rfl, rfl⟩) ?_
  refine a_op 2 rfl (by kernel_rfl) (fun w_ h_ => o_fieldAddr (k := 1) (fun _ => by kernel_rfl) rfl ⟨rfl, rfl⟩) ?_
  refine a_op 3 rfl (by kernel_rfl) (fun w_ h_ => o_load1 (v := (.slice none 0 0)) Tryd.underlying55 rfl rfl h_ (seg_sub 0 rfl) (CellsAt.one rfl) ⟨rfl, rfl⟩) ?_
  refine a_op 5 rfl (by kernel_rfl) (fun w_ h_ => o_move (v := (.pointer (some ⟨bb, 0, none⟩))) rfl ⟨rfl, rfl⟩) ?_
  refine a_op 6 rfl (by kernel_rfl) (fun w_ h_ => o_nilCheck rfl ⟨rfl, rfl⟩) ?_
  refine a_op 7 rfl (by kernel_rfl) (fun w_ h_ => o_fieldAddr (k := 1) (fun _ => by kernel_rfl) rfl ⟨rfl, rfl⟩) ?_
  refine a_op 8 rfl (by kernel_rfl) (fun w_ h_ => o_load1 (v := (.slice none 0 0)) Tryd.underlying55 rfl rfl h_ (seg_sub 0 rfl) (CellsAt.one rfl) ⟨rfl, rfl⟩) ?_
  refine a_op 9 rfl (by kernel_rfl) (fun w_ h_ => o_lenS Tryd.underlying55 rfl (sl_nil (L := []) 1) ⟨rfl, rfl⟩) ?_
  have hH4 : Has E { w with drawn := w.drawn + 1 } [[Hp.one bb (.cells #[a, (.slice none 0 0)] 90 (0, 0))]] := hH3.first 1 rfl
  refine a_w 4 rfl (by kernel_rfl) hH4 (o_uSDnil rfl ?_)
  have hH5 : Has E { w with drawn := w.drawn + 1 } [[Hp.one bb (.cells #[a, (.slice none 0 0)] 90 (0, 0))]] := hH3.first 1 rfl
  refine a_done (by kernel_rfl) hH5 ?_
  refine r_op 10 rfl (by kernel_rfl) (o_uStrNil rfl rfl ?_)
  refine r_op 11 rfl (by kernel_rfl) (o_assign (v := (S ([] : List UInt8))) rfl ?_)
  refine Rest.done (by kernel_rfl) ?_
  refine t_norm (hK2 _ _ ?_)
  refine wp_ret ?_
  refine c_ret1 Tryd.results56  (v := (S ([] : List UInt8))) rfl ?_
  exact ⟨rfl, hH3⟩
set_option maxHeartbeats 4000000 in
theorem bsK_row {E w : World} {R : List Hp} {bb : Nat} {a : Value} {g cap : Nat} {hs : List Hp} {l : List UInt8} (hH : Has E w [hs, [Hp.one bb (.cells #[a, (.slice (some ⟨g, 0, none⟩) l.length cap)] 90 (0, 0))], R]) (ho : Own 5 1 (.slice (some ⟨g, 0, none⟩) l.length cap) l.length (l.map bV) hs) (hne : l ≠ []) (hcap : cap ≠ 0) :
    Calls Tryd.prog 56 #[(.pointer (some ⟨bb, 0, none⟩))] w fun e w' => e = .returned (S l) ∧ Has E w' [[Hp.one bb (.cells #[a, (.slice (some ⟨g, 0, none⟩) l.length cap)] 90 (0, 0))], R] := by
  refine c_enter (args := [(.pointer (some ⟨bb, 0, none⟩))]) Tryd.func56 rfl Tryd.ntmps56 (by simp) ?_
  refine wp_seq_k fun K1 hK1 => ?_
  refine c_region ?_
  refine s_op (o_assign (v := (S ([] : List UInt8))) rfl ?_)
  refine s_nil ?_
  refine t_norm (hK1 _ _ ?_)
  refine wp_seq_k fun K2 hK2 => ?_
  refine Rest.region mixed (by kernel_rfl) ?_
  have hH3 : Has E { w with drawn := w.drawn + 1 } [hs, [Hp.one bb (.cells #[a, (.slice (some ⟨g, 0, none⟩) l.length cap)] 90 (0, 0))], R] := Has0.drew hH _
  refine Rest.phaseA (fun w_ => Has E w_ [[Hp.one bb (.cells #[a, (.slice (some ⟨g, 0, none⟩) l.length cap)] 90 (0, 0))]]) 0 10 10 rfl (by decide) (by kernel_rfl) ?_
  refine a_op 0 rfl (by kernel_rfl) (fun w_ h_ => o_move (v := (.pointer (some ⟨bb, 0, none⟩))) rfl ⟨rfl, rfl⟩) ?_
  refine a_op 1 rfl (by kernel_rfl) (fun w_ h_ => o_nilCheck rfl ⟨rfl, rfl⟩) ?_
  refine a_op 2 rfl (by kernel_rfl) (fun w_ h_ => o_fieldAddr (k := 1) (fun _ => by kernel_rfl) rfl ⟨rfl, rfl⟩) ?_
  refine a_op 3 rfl (by kernel_rfl) (fun w_ h_ => o_load1 (v := (.slice (some ⟨g, 0, none⟩) l.length cap)) Tryd.underlying55 rfl rfl h_ (seg_sub 0 rfl) (CellsAt.one rfl) ⟨rfl, rfl⟩) ?_
  refine a_op 5 rfl (by kernel_rfl) (fun w_ h_ => o_move (v := (.pointer (some ⟨bb, 0, none⟩))) rfl ⟨rfl, rfl⟩) ?_
  refine a_op 6 rfl (by kernel_rfl) (fun w_ h_ => o_nilCheck rfl ⟨rfl, rfl⟩) ?_
  refine a_op 7 rfl (by kernel_rfl) (fun w_ h_ => o_fieldAddr (k := 1) (fun _ => by kernel_rfl) rfl ⟨rfl, rfl⟩) ?_
  refine a_op 8 rfl (by kernel_rfl) (fun w_ h_ => o_load1 (v := (.slice (some ⟨g, 0, none⟩) l.length cap)) Tryd.underlying55 rfl rfl h_ (seg_sub 0 rfl) (CellsAt.one rfl) ⟨rfl, rfl⟩) ?_
  refine a_op 9 rfl (by kernel_rfl) (fun w_ h_ => o_lenS Tryd.underlying55 rfl ho.sl ⟨rfl, rfl⟩) ?_
  have hH4 : Has E { w with drawn := w.drawn + 1 } [[Hp.one bb (.cells #[a, (.slice (some ⟨g, 0, none⟩) l.length cap)] 90 (0, 0))]] := (hH3.front 1 rfl).first 1 rfl
  refine a_w 4 rfl (by kernel_rfl) hH4 (o_uSD (a := ⟨g, 0, none⟩) rfl hcap ?_)
  have hH5 : Has E { w with drawn := w.drawn + 1 } [[Hp.one bb (.cells #[a, (.slice (some ⟨g, 0, none⟩) l.length cap)] 90 (0, 0))]] := (hH3.front 1 rfl).first 1 rfl
  refine a_done (by kernel_rfl) hH5 ?_
  refine r_op 10 rfl (by kernel_rfl) (o_uStr Tryd.underlying131 (by kernel_rfl) rfl rfl ho hne hH3 fun w6 hH7 => ?_)
  refine r_op 11 rfl (by kernel_rfl) (o_assign (v := (S l)) rfl ?_)
  refine Rest.done (by kernel_rfl) ?_
  refine t_norm (hK2 _ _ ?_)
  refine wp_ret ?_
  refine c_ret1 Tryd.results56  (v := (S l)) rfl ?_
  exact ⟨rfl, hH7⟩
set_option maxHeartbeats 4000000 in
theorem blenb {E w : World} {R : List Hp} {bb n c : Nat} {a : Value} {p : Option Addr} (hH : Has E w [[Hp.one bb (.cells #[a, (.slice p n c)] 90 (0, 0))], R]) :
    Calls Tryd.prog 58 #[(.pointer (some ⟨bb, 0, none⟩))] w fun e w' => e = .returned (.int .i64 (n : Int)) ∧ Has E w' [[Hp.one bb (.cells #[a, (.slice p n c)] 90 (0, 0))], R] := by
  refine c_enter (args := [(.pointer (some ⟨bb, 0, none⟩))]) Tryd.func58 rfl Tryd.ntmps58 (by simp) ?_
  refine wp_seq_k fun K1 hK1 => ?_
  refine c_region ?_
  refine s_op (o_assign (v := (.int .i64 0)) rfl ?_)
  refine s_nil ?_
  refine t_norm (hK1 _ _ ?_)
  refine wp_seq_k fun K2 hK2 => ?_
  refine c_region ?_
  refine s_op (o_move (v := (.pointer (some ⟨bb, 0, none⟩))) rfl ?_)
  refine s_op (o_nilCheck rfl ?_)
  refine s_op (o_fieldAddr (k := 1) (fun _ => by kernel_rfl) rfl ?_)
  refine s_op (o_load1 (v := (.slice p n c)) Tryd.underlying55 rfl rfl hH (seg_sub 0 rfl) (CellsAt.one rfl) ?_)
  refine s_op (o_len Tryd.underlying55 rfl ?_)
  refine s_op (o_assign (v := (.int .i64 (n : Int))) rfl ?_)
  refine s_nil ?_
  refine t_norm (hK2 _ _ ?_)
  refine wp_ret ?_
  refine c_ret1 Tryd.results58  (v := (.int .i64 (n : Int))) rfl ?_
  exact ⟨rfl, hH⟩
theorem bstrK {E w : World} {R sg : List Hp} {b : Nat} {l : List UInt8} (hH : Has E w [sg, R]) (hB : Bld b l sg) :
    Calls Tryd.prog 56 #[.pointer (some ⟨b, 0, none⟩)] w fun e w' => ∃ a p c, e = .returned (S l) ∧ Has E w' [[Hp.one b (.cells #[a, .slice p l.length c] 90 (0, 0))], R] := by
  obtain ⟨a, v, hs, rfl, _, ho, hn⟩ := hB
  by_cases hl : l = []
  · obtain rfl := hn hl
    subst hl
    exact (bsK_nil hH.open2.drop).mono fun e w' ⟨he, hH'⟩ => ⟨a, none, 0, he, hH'⟩
  · have ho2 := ho
    obtain ⟨hlc, ⟨_, h, _⟩ | ⟨g, cap, cur, rfl, rfl, hnc, _⟩⟩ := ho
    · exact absurd (List.eq_nil_of_length_eq_zero h) hl
    · exact (bsK_row hH.open2 ho2 hl (fun e => hl (List.eq_nil_of_length_eq_zero (by omega)))).mono fun e w' ⟨he, hH'⟩ => ⟨a, _, cap, he, hH'⟩
end Go.Q
namespace Go.Q
open Go.Proofs
set_option linter.unusedVariables false
set_option maxRecDepth 100000
attribute [local irreducible] wpList OK Code.wp
set_option maxHeartbeats 4000000 in
theorem sum_c {E w : World} {R : List Hp} (hH : Has E w [R]) {v : Value} {l : List Int} (hv : Ints R v l) :
    Calls Tryd.prog 65 #[v] w fun e w' => e = .returned (.int .i64 (sumS 0 l)) ∧ Has E w' [R] := by
  have hn := hv.le
  refine c_enter (args := [v]) Tryd.func65 rfl Tryd.ntmps65 (by simp) ?_
  refine wp_seq_k fun K1 hK1 => ?_
  refine c_region ?_
  refine s_op (o_assign (v := (.int .i64 0)) rfl ?_)
  refine s_nil ?_
  refine t_norm (hK1 _ _ ?_)
  refine wp_seq_k fun K2 hK2 => ?_
  refine c_region ?_
  refine s_op (o_assign (v := (.int .i64 0)) rfl ?_)
  refine s_nil ?_
  refine t_norm (hK2 _ _ ?_)
  refine wp_seq_k fun K3 hK3 => ?_
  refine wp_seq_k fun K4 hK4 => ?_
  refine c_region ?_
  refine s_op (o_move (v := v) rfl ?_)
  refine s_op (o_lenS Tryd.underlying56 rfl hv ?_)
  refine s_op (o_move (v := (.int .i64 0)) rfl ?_)
  refine s_nil ?_
  refine t_norm (hK4 _ _ ?_)
  refine wp_block ?_
  let I6 : Nat → (Nat → Value) → World → Prop := fun n__ r__ w__ => ∃ (k : Nat) (y : Int), n__ = l.length - k ∧ Has E w__ [R] ∧ (k ≤ l.length) ∧ (sumS 0 l = sumS y (l.drop k)) ∧ (0 ≤ y ∧ y ≤ 9223372036854775807) ∧ r__ 0 = v ∧ r__ 3 = (.int .i64 y) ∧ r__ 6 = v ∧ r__ 7 = (.int .i64 ((l.length : Nat) : Int)) ∧ r__ 8 = (.int .i64 (k : Int))
  refine c_loop I6 _ ⟨0, 0, rfl, hH, Nat.zero_le _, rfl, (by omega), rfl, rfl, rfl, rfl, rfl⟩ ?_
  rintro n_ r9 w7 ⟨k, y, rfl, hH8, hk, hy, hb, e5_0, e5_3, e5_6, e5_7, e5_8⟩
  refine wp_seq_k fun K10 hK10 => ?_
  refine c_region ?_
  refine s_op (o_lss (a := (k : Int)) (b := ((l.length : Nat) : Int)) e5_8 e5_7 ?_)
  refine s_nil ?_
  refine t_norm (hK10 _ _ ?_)
  refine wp_seq_k fun K11 hK11 => ?_
  refine c_cond rfl (fun h12 => ?_) (fun h12 => ?_)
  · -- (k : Int) < ((l.length : Nat) : Int)
    refine wp_skip ?_
    refine t_norm (hK11 _ _ ?_)
    refine wp_seq_k fun K13 hK13 => ?_
    refine wp_block ?_
    refine wp_seq_k fun K14 hK14 => ?_
    refine c_region ?_
    obtain ⟨x18, hx19⟩ : ∃ x_, l[((k : Int)).toNat]? = some x_ := get_some (by omega)
    refine s_op (o_index1 Tryd.underlying56 ti3 e5_6 hv e5_8 (by omega) hx19 fun b15 o16 hc17 => ?_)
    refine s_op (o_load1 (v := (.int .i64 x18)) Tryd.underlying3 rfl rfl hH8 (seg_sub 0 rfl) hc17 ?_)
    refine s_op (o_assign (v := (.int .i64 x18)) rfl ?_)
    refine s_nil ?_
    refine t_norm (hK14 _ _ ?_)
    refine wp_seq_k fun K20 hK20 => ?_
    refine wp_seq_k fun K21 hK21 => ?_
    refine c_region ?_
    refine s_op (o_move (v := (.int .i64 x18)) rfl ?_)
    refine s_op (o_move (v := (.int .i64 y)) e5_3 ?_)
    refine s_op (o_sub (a := 9223372036854775807) (b := y) rfl rfl (w64 (by omega) (by omega)) ?_)
    refine s_op (o_gtr (a := x18) (b := 9223372036854775807 - y) rfl rfl ?_)
    refine s_nil ?_
    refine t_norm (hK21 _ _ ?_)
    refine c_cond rfl (fun h22 => ?_) (fun h22 => ?_)
    · -- 9223372036854775807 - y < x18
      refine wp_seq_k fun K23 hK23 => ?_
      refine c_region ?_
      refine s_op (o_assign (v := (.int .i64 9223372036854775807)) rfl ?_)
      refine s_nil ?_
      refine t_norm (hK23 _ _ ?_)
      refine wp_ret ?_
      refine t_ret (b_ret (t_ret (t_ret (b_ret (t_ret (c_ret1 Tryd.results65  (v := (.int .i64 9223372036854775807)) rfl ?_))))))
      exact ⟨by rw [hy, drop_of (by simpa using hx19), sumS, if_pos (by omega)], hH8⟩
    · -- not: 9223372036854775807 - y < x18
      refine wp_skip ?_
      refine t_norm (hK20 _ _ ?_)
      refine c_region ?_
      refine s_op (o_move (v := (.int .i64 y)) e5_3 ?_)
      refine s_op (o_move (v := (.int .i64 x18)) rfl ?_)
      refine s_op (o_max (a := x18) (b := 0) rfl rfl ?_)
      refine s_op (o_add (a := y) (b := max x18 0) rfl rfl (w64 (by omega) (by omega)) ?_)
      refine s_op (o_assign (v := (.int .i64 (y + (max x18 0)))) rfl ?_)
      refine s_nil ?_
      refine b_norm ?_
      refine t_norm (hK13 _ _ ?_)
      refine c_region ?_
      refine s_op (o_add (a := (k : Int)) (b := 1) e5_8 rfl (w64 (by omega) (by omega)) ?_)
      refine s_op (o_move (v := (.int .i64 ((k : Int) + 1))) rfl ?_)
      refine s_nil ?_
      refine t_norm ⟨l.length - (k + 1), _, rfl, ?_, ?_⟩
      · omega
      · exact ⟨(k + 1), (y + (max x18 0)), rfl, hH8, (by omega), (by rw [hy, drop_of (by simpa using hx19), sumS, if_neg (by omega)]), (by omega), e5_0, rfl, e5_6, e5_7, rfl⟩
  · -- not: (k : Int) < ((l.length : Nat) : Int)
    refine wp_exit ?_
    refine t_exit (t_exit (x_in (?_)))
    refine t_norm (hK3 _ _ ?_)
    refine wp_seq_k fun K24 hK24 => ?_
    refine c_region ?_
    refine s_op (o_move (v := (.int .i64 y)) e5_3 ?_)
    refine s_op (o_assign (v := (.int .i64 y)) rfl ?_)
    refine s_nil ?_
    refine t_norm (hK24 _ _ ?_)
    refine wp_ret ?_
    refine c_ret1 Tryd.results65  (v := (.int .i64 y)) rfl ?_
    exact ⟨by rw [hy, List.drop_of_length_le (by omega)]; rfl, hH8⟩
set_option maxHeartbeats 4000000 in
theorem fits_c {E w : World} {R : List Hp} (hH : Has E w [R]) (n : Int) (m : Nat) (hm : m ≤ 8) :
    Calls Tryd.prog 87 #[(.int .i64 n), (.int .i64 (m : Int))] w fun e w' => e = .returned (.bool (fitsS n m)) ∧ Has E w' [R] := by
  refine c_enter (args := [(.int .i64 n), (.int .i64 (m : Int))]) Tryd.func87 rfl Tryd.ntmps87 (by simp) ?_
  refine wp_seq_k fun K1 hK1 => ?_
  refine c_region ?_
  refine s_op (o_assign (v := (.bool false)) rfl ?_)
  refine s_nil ?_
  refine t_norm (hK1 _ _ ?_)
  refine wp_seq_k fun K2 hK2 => ?_
  refine c_region ?_
  refine s_op (o_move (v := (.int .i64 n)) rfl ?_)
  refine s_op (o_geq (a := n) (b := 0) rfl rfl ?_)
  refine s_op (o_move (v := (.bool (decide (0 ≤ n)))) rfl ?_)
  by_cases h3 : 0 ≤ n
  · -- 0 ≤ n
    refine s_on 7 rfl (congrArg Value.bool (decide_eq_true h3)) (o_move (v := (.int .i64 (m : Int))) rfl ?_)
    refine s_on 7 rfl (congrArg Value.bool (decide_eq_true h3)) (o_eql (a := (m : Int)) (b := 8) rfl rfl ?_)
    refine s_on 7 rfl (congrArg Value.bool (decide_eq_true h3)) (o_move (v := (.bool (decide ((m : Int) = 8)))) rfl ?_)
    by_cases h4 : (m : Int) = 8
    · -- (m : Int) = 8
      refine s_off (b' := true) 10 rfl (congrArg Value.bool (decide_eq_true h4)) rfl ?_
      refine s_off (b' := true) 10 rfl (congrArg Value.bool (decide_eq_true h4)) rfl ?_
      refine s_off (b' := true) 10 rfl (congrArg Value.bool (decide_eq_true h4)) rfl ?_
      refine s_off (b' := true) 10 rfl (congrArg Value.bool (decide_eq_true h4)) rfl ?_
      refine s_off (b' := true) 10 rfl (congrArg Value.bool (decide_eq_true h4)) rfl ?_
      refine s_on 7 rfl (congrArg Value.bool (decide_eq_true h3)) (o_pick_t (u := (.bool true)) ((rfl : _ = _).trans (congrArg Value.bool (decide_eq_true h4))) rfl ?_)
      refine s_op (o_pick_t (u := (.bool true)) ((rfl : _ = _).trans (congrArg Value.bool (decide_eq_true h3))) rfl ?_)
      refine s_op (o_assign (v := (.bool true)) rfl ?_)
      refine s_nil ?_
      refine t_norm (hK2 _ _ ?_)
      refine wp_ret ?_
      refine c_ret1 Tryd.results87  (v := (.bool true)) rfl ?_
      exact ⟨by simp [fitsS, *], hH⟩
    · -- not: (m : Int) = 8
      refine s_on 10 rfl (congrArg Value.bool (decide_eq_false h4)) (o_move (v := (.int .i64 n)) rfl ?_)
      refine s_on 10 rfl (congrArg Value.bool (decide_eq_false h4)) (o_move (v := (.int .i64 (m : Int))) rfl ?_)
      refine s_on 10 rfl (congrArg Value.bool (decide_eq_false h4)) (o_mul (a := 8) (b := (m : Int)) rfl rfl (w64 (by omega) (by omega)) ?_)
      refine s_on 10 rfl (congrArg Value.bool (decide_eq_false h4)) (o_shr (c := Int.fdiv n (2 ^ (min (8 * (m : Int)).toNat 64))) rfl rfl (by omega) rfl ?_)
      refine s_on 10 rfl (congrArg Value.bool (decide_eq_false h4)) (o_eql (a := Int.fdiv n (2 ^ (min (8 * (m : Int)).toNat 64))) (b := 0) rfl rfl ?_)
      refine s_on 7 rfl (congrArg Value.bool (decide_eq_true h3)) (o_pick_f (u := (.bool (decide (Int.fdiv n (2 ^ (min (8 * (m : Int)).toNat 64)) = 0)))) ((rfl : _ = _).trans (congrArg Value.bool (decide_eq_false h4))) rfl ?_)
      refine s_op (o_pick_t (u := (.bool (decide (Int.fdiv n (2 ^ (min (8 * (m : Int)).toNat 64)) = 0)))) ((rfl : _ = _).trans (congrArg Value.bool (decide_eq_true h3))) rfl ?_)
      refine s_op (o_assign (v := (.bool (decide (Int.fdiv n (2 ^ (min (8 * (m : Int)).toNat 64)) = 0)))) rfl ?_)
      refine s_nil ?_
      refine t_norm (hK2 _ _ ?_)
      refine wp_ret ?_
      refine c_ret1 Tryd.results87  (v := (.bool (decide (Int.fdiv n (2 ^ (min (8 * (m : Int)).toNat 64)) = 0)))) rfl ?_
      exact ⟨by simp [fitsS, *], hH⟩
  · -- not: 0 ≤ n
    refine s_off (b' := false) 7 rfl (congrArg Value.bool (decide_eq_false h3)) rfl ?_
    refine s_off (b' := false) 7 rfl (congrArg Value.bool (decide_eq_false h3)) rfl ?_
    refine s_off (b' := false) 7 rfl (congrArg Value.bool (decide_eq_false h3)) rfl ?_
    refine s_offu 10 rfl rfl ?_
    refine s_offu 10 rfl rfl ?_
    refine s_offu 10 rfl rfl ?_
    refine s_offu 10 rfl rfl ?_
    refine s_offu 10 rfl rfl ?_
    refine s_off (b' := false) 7 rfl (congrArg Value.bool (decide_eq_false h3)) rfl ?_
    refine s_op (o_pick_f (u := (.bool false)) ((rfl : _ = _).trans (congrArg Value.bool (decide_eq_false h3))) rfl ?_)
    refine s_op (o_assign (v := (.bool false)) rfl ?_)
    refine s_nil ?_
    refine t_norm (hK2 _ _ ?_)
    refine wp_ret ?_
    refine c_ret1 Tryd.results87  (v := (.bool false)) rfl ?_
    exact ⟨by simp [fitsS, *], hH⟩
set_option maxHeartbeats 4000000 in
theorem put_c {E w : World} {R : List Hp} (hH : Has E w [R]) (m : Nat) {v : Value} {l : List Int} (hv : Ints R v l) (hl : l.length ≤ 1000000) :
    Calls Tryd.prog 53 #[(.int .i64 (m : Int)), v] w fun e w' => e = .returned (S (putS m l)) ∧ Has E w' [R] := by
  have hml0 : 0 ≤ (m : Int) * (l.length : Int) := Int.mul_nonneg (by omega) (by omega)
  have hml : m ≤ 8 → (m : Int) * (l.length : Int) ≤ 8000000 := fun h => by have h2 : m * l.length ≤ 8 * 1000000 := Nat.mul_le_mul h hl; have h3 := Int.ofNat_le.2 h2; rw [Int.natCast_mul] at h3; omega
  refine c_enter (args := [(.int .i64 (m : Int)), v]) Tryd.func53 rfl Tryd.ntmps53 (by simp) ?_
  refine wp_seq_k fun K1 hK1 => ?_
  refine c_region ?_
  refine s_op (o_assign (v := (S ([] : List UInt8))) rfl ?_)
  refine s_nil ?_
  refine t_norm (hK1 _ _ ?_)
  refine wp_seq_k fun K2 hK2 => ?_
  refine wp_seq_k fun K3 hK3 => ?_
  refine c_region ?_
  refine s_op (o_move (v := (.int .i64 (m : Int))) rfl ?_)
  refine s_op (o_lss (a := (m : Int)) (b := 1) rfl rfl ?_)
  refine s_op (o_move (v := (.bool (decide ((m : Int) < 1)))) rfl ?_)
  by_cases h4 : (m : Int) < 1
  · -- (m : Int) < 1
    refine s_off (b' := true) 11 rfl (congrArg Value.bool (decide_eq_true h4)) rfl ?_
    refine s_off (b' := true) 11 rfl (congrArg Value.bool (decide_eq_true h4)) rfl ?_
    refine s_op (o_pick_t (u := (.bool true)) ((rfl : _ = _).trans (congrArg Value.bool (decide_eq_true h4))) rfl ?_)
    refine s_nil ?_
    refine t_norm (hK3 _ _ ?_)
    refine c_true rfl rfl ?_
    refine wp_seq_k fun K5 hK5 => ?_
    refine c_region ?_
    refine s_op (o_assign (v := (S ([] : List UInt8))) rfl ?_)
    refine s_nil ?_
    refine t_norm (hK5 _ _ ?_)
    refine wp_ret ?_
    refine t_ret (c_ret1 Tryd.results53  (v := (S ([] : List UInt8))) rfl ?_)
    exact ⟨by rw [putS, if_neg (by omega)], hH⟩
  · -- not: (m : Int) < 1
    refine s_on 11 rfl (congrArg Value.bool (decide_eq_false h4)) (o_move (v := (.int .i64 (m : Int))) rfl ?_)
    refine s_on 11 rfl (congrArg Value.bool (decide_eq_false h4)) (o_gtr (a := (m : Int)) (b := 8) rfl rfl ?_)
    refine s_op (o_pick_f (u := (.bool (decide (8 < (m : Int))))) ((rfl : _ = _).trans (congrArg Value.bool (decide_eq_false h4))) rfl ?_)
    refine s_nil ?_
    refine t_norm (hK3 _ _ ?_)
    refine c_cond rfl (fun h6 => ?_) (fun h6 => ?_)
    · -- 8 < (m : Int)
      refine wp_seq_k fun K7 hK7 => ?_
      refine c_region ?_
      refine s_op (o_assign (v := (S ([] : List UInt8))) rfl ?_)
      refine s_nil ?_
      refine t_norm (hK7 _ _ ?_)
      refine wp_ret ?_
      refine t_ret (c_ret1 Tryd.results53  (v := (S ([] : List UInt8))) rfl ?_)
      exact ⟨by rw [putS, if_neg (by omega)], hH⟩
    · -- not: 8 < (m : Int)
      refine wp_skip ?_
      refine t_norm (hK2 _ _ ?_)
      refine wp_seq_k fun K8 hK8 => ?_
      refine c_region ?_
      refine s_op (o_move (v := (.int .i64 (m : Int))) rfl ?_)
      refine s_op (o_move (v := v) rfl ?_)
      refine s_op (o_lenS Tryd.underlying56 rfl hv ?_)
      refine s_op (o_mul (a := (m : Int)) (b := ((l.length : Nat) : Int)) rfl rfl (w64 (by omega) (by omega)) ?_)
      refine s_op (o_make Tryd.underlying55 ti5 rfl rfl (by omega) (by omega) (by omega) (by omega) hH fun v9 s10 w12 ho11 hH13 => ?_)
      have ho11 : Own 5 1 v9 0 [] s10 := by simpa using ho11
      refine s_op (o_assign (v := v9) rfl ?_)
      refine s_nil ?_
      refine t_norm (hK8 _ _ ?_)
      refine wp_seq_k fun K14 hK14 => ?_
      refine wp_seq_k fun K15 hK15 => ?_
      refine c_region ?_
      refine s_op (o_move (v := v) rfl ?_)
      refine s_op (o_lenS Tryd.underlying56 rfl hv ?_)
      refine s_op (o_move (v := (.int .i64 0)) rfl ?_)
      refine s_nil ?_
      refine t_norm (hK15 _ _ ?_)
      refine wp_block ?_
      let I17 : Nat → (Nat → Value) → World → Prop := fun n__ r__ w__ => ∃ (k : Nat) (vb : Value) (hs : List Hp) (lb : List UInt8), n__ = l.length - k ∧ Has E w__ [hs, R] ∧ (k ≤ l.length) ∧ (Own 5 1 vb lb.length (lb.map bV) hs) ∧ (lb = (l.take k).flatMap (beFrom · m)) ∧ (∀ x ∈ l.take k, fitsS x m = true) ∧ (lb.length ≤ 8 * k) ∧ r__ 0 = (.int .i64 (m : Int)) ∧ r__ 1 = v ∧ r__ 5 = vb ∧ r__ 14 = (.bool (decide (8 < (m : Int)))) ∧ r__ 20 = v ∧ r__ 21 = (.int .i64 ((l.length : Nat) : Int)) ∧ r__ 22 = (.int .i64 (k : Int))
      refine c_loop I17 _ ⟨0, v9, s10, [], rfl, hH13, Nat.zero_le _, ho11, rfl, (by simp), (by simp), rfl, rfl, rfl, rfl, rfl, rfl, rfl⟩ ?_
      rintro n_ r20 w18 ⟨k, vb, hs, lb, rfl, hH19, hk, hob, hlb, hfit, hlen, e16_0, e16_1, e16_5, e16_14, e16_20, e16_21, e16_22⟩
      refine wp_seq_k fun K21 hK21 => ?_
      refine c_region ?_
      refine s_op (o_lss (a := (k : Int)) (b := ((l.length : Nat) : Int)) e16_22 e16_21 ?_)
      refine s_nil ?_
      refine t_norm (hK21 _ _ ?_)
      refine wp_seq_k fun K22 hK22 => ?_
      refine c_cond rfl (fun h23 => ?_) (fun h23 => ?_)
      · -- (k : Int) < ((l.length : Nat) : Int)
        refine wp_skip ?_
        refine t_norm (hK22 _ _ ?_)
        refine wp_seq_k fun K24 hK24 => ?_
        refine wp_block ?_
        refine wp_seq_k fun K25 hK25 => ?_
        refine c_region ?_
        obtain ⟨x29, hx30⟩ : ∃ x_, l[((k : Int)).toNat]? = some x_ := get_some (by omega)
        refine s_op (o_index1 Tryd.underlying56 ti3 e16_20 hv e16_22 (by omega) hx30 fun b26 o27 hc28 => ?_)
        refine s_op (o_load1 (v := (.int .i64 x29)) Tryd.underlying3 rfl rfl hH19 (seg_sub 1 rfl) hc28 ?_)
        refine s_op (o_assign (v := (.int .i64 x29)) rfl ?_)
        refine s_nil ?_
        refine t_norm (hK25 _ _ ?_)
        refine wp_seq_k fun K31 hK31 => ?_
        refine wp_seq_k fun K32 hK32 => ?_
        refine c_region ?_
        refine s_op (o_move (v := (.int .i64 x29)) rfl ?_)
        refine s_op (o_move (v := (.int .i64 (m : Int))) e16_0 ?_)
        refine s_op (o_callf (vs := #[(.int .i64 x29), (.int .i64 (m : Int))]) ca87 rfl (args2 rfl rfl) (fits_c hH19.all x29 m (by omega)) ?_)
        rintro _ w35 ⟨rfl, hX33⟩
        refine ⟨_, rfl, ?_⟩
        have hH34 := hX33.of_all
        refine s_op (o_not rfl ?_)
        refine s_nil ?_
        refine t_norm (hK32 _ _ ?_)
        refine c_condb rfl (fun h36 => ?_) (fun h36 => ?_)
        · -- !(fitsS x29 m)
          have h36_n : (fitsS x29 m) = false := by simpa using h36
          refine wp_seq_k fun K37 hK37 => ?_
          refine c_region ?_
          refine s_op (o_assign (v := (S ([] : List UInt8))) rfl ?_)
          refine s_nil ?_
          refine t_norm (hK37 _ _ ?_)
          refine wp_ret ?_
          refine t_ret (b_ret (t_ret (t_ret (b_ret (t_ret (c_ret1 Tryd.results53  (v := (S ([] : List UInt8))) rfl ?_))))))
          have hH38 : Has E w35 [R] := (hH34.front 1 rfl).first 1 rfl
          exact ⟨by rw [putS_no (x := x29) (List.mem_of_getElem? hx30) (by simpa using h36)], hH38⟩
        · -- not: !(fitsS x29 m)
          have h36_n : (fitsS x29 m) = true := by simpa using h36
          refine wp_skip ?_
          refine t_norm (hK31 _ _ ?_)
          refine wp_seq_k fun K39 hK39 => ?_
          refine c_region ?_
          refine s_op (o_move (v := (.int .i64 (m : Int))) e16_0 ?_)
          refine s_op (o_sub (a := (m : Int)) (b := 1) rfl rfl (w64 (by omega) (by omega)) ?_)
          refine s_op (o_assign (v := (.int .i64 ((m : Int) - 1))) rfl ?_)
          refine s_nil ?_
          refine t_norm (hK39 _ _ ?_)
          refine wp_block ?_
          let I41 : Nat → (Nat → Value) → World → Prop := fun n__ r__ w__ => ∃ (j : Nat) (i : Int) (vc : Value) (hs2 : List Hp) (lc : List UInt8), n__ = j + 1 ∧ Has E w__ [hs2, R] ∧ (j ≤ m) ∧ (i = (j : Int) - 1) ∧ (Own 5 1 vc lc.length (lc.map bV) hs2) ∧ (lb ++ beFrom x29 m = lc ++ beFrom x29 j) ∧ (lc.length + j ≤ lb.length + m) ∧ r__ 0 = (.int .i64 (m : Int)) ∧ r__ 1 = v ∧ r__ 5 = vc ∧ r__ 7 = (.int .i64 x29) ∧ r__ 8 = (.int .i64 i) ∧ r__ 14 = (.bool (decide (8 < (m : Int)))) ∧ r__ 20 = v ∧ r__ 21 = (.int .i64 ((l.length : Nat) : Int)) ∧ r__ 22 = (.int .i64 (k : Int)) ∧ r__ 23 = (.bool (decide ((k : Int) < ((l.length : Nat) : Int)))) ∧ r__ 29 = (.bool (!(fitsS x29 m)))
          refine c_loop I41 _ ⟨m, ((m : Int) - 1), vb, hs, lb, rfl, hH34, Nat.le_refl _, rfl, hob, rfl, (by omega), e16_0, e16_1, e16_5, rfl, rfl, e16_14, e16_20, e16_21, e16_22, rfl, rfl⟩ ?_
          rintro n_ r44 w42 ⟨j, i, vc, hs2, lc, rfl, hH43, hj, hi, hoc, hpart, hlen2, e40_0, e40_1, e40_5, e40_7, e40_8, e40_14, e40_20, e40_21, e40_22, e40_23, e40_29⟩
          refine wp_seq_k fun K45 hK45 => ?_
          refine wp_seq_k fun K46 hK46 => ?_
          refine c_region ?_
          refine s_op (o_move (v := (.int .i64 i)) e40_8 ?_)
          refine s_op (o_geq (a := i) (b := 0) rfl rfl ?_)
          refine s_nil ?_
          refine t_norm (hK46 _ _ ?_)
          refine c_cond rfl (fun h47 => ?_) (fun h47 => ?_)
          · -- 0 ≤ i
            refine wp_skip ?_
            refine t_norm (hK45 _ _ ?_)
            refine wp_seq_k fun K48 hK48 => ?_
            refine wp_block ?_
            refine c_region ?_
            refine s_op (o_move (v := vc) e40_5 ?_)
            refine s_op (o_move (v := (.int .i64 x29)) e40_7 ?_)
            refine s_op (o_move (v := (.int .i64 i)) e40_8 ?_)
            refine s_op (o_mul (a := 8) (b := i) rfl rfl (w64 (by omega) (by omega)) ?_)
            refine s_op (o_shr (c := Int.fdiv x29 (2 ^ (min (8 * i).toNat 64))) rfl rfl (by omega) rfl ?_)
            refine s_op (o_conv (c := ((by8 (Int.fdiv x29 (2 ^ (min (8 * i).toNat 64)))).toNat : Int)) Tryd.underlying3 Tryd.underlying5 rfl (wrap_by8 _) ?_)
            refine s_op (o_buildSlice (ps := #[(0, (bV (by8 (Int.fdiv x29 (2 ^ (min (8 * i).toNat 64))))))]) (cells := #[(bV (by8 (Int.fdiv x29 (2 ^ (min (8 * i).toNat 64)))))]) Tryd.underlying55 ti5 (by decide) (parts1 rfl) (by kernel_rfl) hH43 fun b49 w50 hH51 => ?_)
            refine s_op (o_append Tryd.underlying55 ti5 rfl (by decide) rfl hoc rfl (sl_lit (f := bV) (l := [(by8 (Int.fdiv x29 (2 ^ (min (8 * i).toNat 64))))]) rfl rfl (by simp)) (hH51.front 1 rfl) (seg_sub 0 rfl) (one_bV _) (by simp; omega) (by simp; omega) fun v52 s53 w55 ho54 hH56 => ?_)
            have ho54 : Own 5 1 v52 (lc ++ [(by8 (Int.fdiv x29 (2 ^ (min (8 * i).toNat 64))))]).length ((lc ++ [(by8 (Int.fdiv x29 (2 ^ (min (8 * i).toNat 64))))]).map bV) s53 := ho54.app
            refine s_op (o_assign (v := v52) rfl ?_)
            refine s_nil ?_
            refine b_norm ?_
            refine t_norm (hK48 _ _ ?_)
            refine c_region ?_
            refine s_op (o_move (v := (.int .i64 i)) e40_8 ?_)
            refine s_op (o_sub (a := i) (b := 1) rfl rfl (w64 (by omega) (by omega)) ?_)
            refine s_op (o_assign (v := (.int .i64 (i - 1))) rfl ?_)
            refine s_nil ?_
            have hH57 : Has E w55 [s53, R] := ((hH56.front 2 rfl).front 1 rfl).first 2 rfl
            refine t_norm ⟨(j - 1) + 1, _, rfl, ?_, ?_⟩
            · omega
            · exact ⟨(j - 1), (i - 1), v52, s53, (lc ++ [(by8 (Int.fdiv x29 (2 ^ (min (8 * i).toNat 64))))]), rfl, hH57, (by omega), (by omega), (ho54), (by rw [hpart, beFrom_pred (by omega), hi, by8_shift _ (by omega) (by omega)]; simp [List.append_assoc]), (by simp; omega), e40_0, e40_1, rfl, e40_7, rfl, e40_14, e40_20, e40_21, e40_22, e40_23, e40_29⟩
          · -- not: 0 ≤ i
            refine wp_exit ?_
            refine t_exit (t_exit (x_in (?_)))
            refine b_norm ?_
            refine t_norm (hK24 _ _ ?_)
            refine c_region ?_
            refine s_op (o_add (a := (k : Int)) (b := 1) e40_22 rfl (w64 (by omega) (by omega)) ?_)
            refine s_op (o_move (v := (.int .i64 ((k : Int) + 1))) rfl ?_)
            refine s_nil ?_
            refine t_norm ⟨l.length - (k + 1), _, rfl, ?_, ?_⟩
            · omega
            · exact ⟨(k + 1), vc, hs2, lc, rfl, hH43, (by omega), (hoc), (by (have e : j = 0 := by omega); rw [e] at hpart; rw [take_succ_of (by simpa using hx30), List.flatMap_append, ← hlb]; simpa [beFrom] using hpart.symm), (by rw [take_succ_of (by simpa using hx30)]; exact fun x hx => (List.mem_append.1 hx).elim (hfit x) (fun h => by simp at h; subst h; simpa using h36)), (by omega), e40_0, e40_1, e40_5, e40_14, e40_20, e40_21, rfl⟩
      · -- not: (k : Int) < ((l.length : Nat) : Int)
        refine wp_exit ?_
        refine t_exit (t_exit (x_in (?_)))
        refine t_norm (hK14 _ _ ?_)
        refine wp_seq_k fun K58 hK58 => ?_
        refine c_region ?_
        refine s_op (o_move (v := vb) e16_5 ?_)
        refine s_op (o_bstr Tryd.underlying55 Tryd.underlying5 Tryd.underlying9 rfl hob.sl hH19 (seg_sub 0 rfl) ?_)
        refine s_op (o_assign (v := (S lb)) rfl ?_)
        refine s_nil ?_
        refine t_norm (hK58 _ _ ?_)
        refine wp_ret ?_
        refine c_ret1 Tryd.results53  (v := (S lb)) rfl ?_
        have hH59 : Has E w18 [R] := (hH19.front 1 rfl).first 1 rfl
        have e : k = l.length := by omega
        subst e
        rw [List.take_of_length_le (Nat.le_refl _)] at hlb hfit
        exact ⟨by rw [putS_yes (by omega) (by omega) hfit, hlb], hH59⟩
set_option maxHeartbeats 4000000 in
theorem take_c {E w : World} {R : List Hp} (hH : Has E w [R]) (m : Nat) (s : List UInt8) (hsl : s.length ≤ 9223372036854775807) :
    Calls Tryd.prog 49 #[(S s), (.int .i64 (m : Int))] w fun e w' => e = .returned (.tuple #[.int .i64 (takeS s m).1, S (takeS s m).2.1, .bool (takeS s m).2.2]) ∧ Has E w' [R] := by
  refine c_enter (args := [(S s), (.int .i64 (m : Int))]) Tryd.func49 rfl Tryd.ntmps49 (by simp) ?_
  refine wp_seq_k fun K1 hK1 => ?_
  refine c_region ?_
  refine s_op (o_assign (v := (.int .i64 0)) rfl ?_)
  refine s_op (o_assign (v := (S ([] : List UInt8))) rfl ?_)
  refine s_op (o_assign (v := (.bool false)) rfl ?_)
  refine s_nil ?_
  refine t_norm (hK1 _ _ ?_)
  refine wp_seq_k fun K2 hK2 => ?_
  refine wp_seq_k fun K3 hK3 => ?_
  refine c_region ?_
  refine s_op (o_move (v := (.int .i64 (m : Int))) rfl ?_)
  refine s_op (o_lss (a := (m : Int)) (b := 1) rfl rfl ?_)
  refine s_op (o_move (v := (.bool (decide ((m : Int) < 1)))) rfl ?_)
  by_cases h4 : (m : Int) < 1
  · -- (m : Int) < 1
    refine s_off (b' := true) 11 rfl (congrArg Value.bool (decide_eq_true h4)) rfl ?_
    refine s_off (b' := true) 11 rfl (congrArg Value.bool (decide_eq_true h4)) rfl ?_
    refine s_op (o_pick_t (u := (.bool true)) ((rfl : _ = _).trans (congrArg Value.bool (decide_eq_true h4))) rfl ?_)
    refine s_op (o_move (v := (.bool true)) rfl ?_)
    refine s_off (b' := true) 15 rfl rfl rfl ?_
    refine s_off (b' := true) 15 rfl rfl rfl ?_
    refine s_off (b' := true) 15 rfl rfl rfl ?_
    refine s_off (b' := true) 15 rfl rfl rfl ?_
    refine s_op (o_pick_t (u := (.bool true)) rfl rfl ?_)
    refine s_op (o_move (v := (.bool true)) rfl ?_)
    refine s_off (b' := true) 21 rfl rfl rfl ?_
    refine s_off (b' := true) 21 rfl rfl rfl ?_
    refine s_off (b' := true) 21 rfl rfl rfl ?_
    refine s_offu 24 rfl rfl ?_
    refine s_offu 24 rfl rfl ?_
    refine s_offu 24 rfl rfl ?_
    refine s_off (b' := true) 21 rfl rfl rfl ?_
    refine s_op (o_pick_t (u := (.bool true)) rfl rfl ?_)
    refine s_nil ?_
    refine t_norm (hK3 _ _ ?_)
    refine c_true rfl rfl ?_
    refine wp_seq_k fun K5 hK5 => ?_
    refine c_region ?_
    refine s_op (o_move (v := (S s)) rfl ?_)
    refine s_op (o_assign (v := (.int .i64 0)) rfl ?_)
    refine s_op (o_assign (v := (S s)) rfl ?_)
    refine s_op (o_assign (v := (.bool false)) rfl ?_)
    refine s_nil ?_
    refine t_norm (hK5 _ _ ?_)
    refine wp_ret ?_
    refine t_ret (c_ret3 Tryd.results49  (v := (.int .i64 0)) rfl (x := (S s)) rfl (y := (.bool false)) rfl ?_)
    exact ⟨by rw [takeS_no (by first | exact .inl (by omega) | exact .inr (.inl (by omega)) | exact .inr (.inr ⟨by omega, 0, by simpa using rfl, by omega⟩))], hH⟩
  · -- not: (m : Int) < 1
    refine s_on 11 rfl (congrArg Value.bool (decide_eq_false h4)) (o_move (v := (.int .i64 (m : Int))) rfl ?_)
    refine s_on 11 rfl (congrArg Value.bool (decide_eq_false h4)) (o_gtr (a := (m : Int)) (b := 8) rfl rfl ?_)
    refine s_op (o_pick_f (u := (.bool (decide (8 < (m : Int))))) ((rfl : _ = _).trans (congrArg Value.bool (decide_eq_false h4))) rfl ?_)
    refine s_op (o_move (v := (.bool (decide (8 < (m : Int))))) rfl ?_)
    by_cases h6 : 8 < (m : Int)
    · -- 8 < (m : Int)
      refine s_off (b' := true) 15 rfl (congrArg Value.bool (decide_eq_true h6)) rfl ?_
      refine s_off (b' := true) 15 rfl (congrArg Value.bool (decide_eq_true h6)) rfl ?_
      refine s_off (b' := true) 15 rfl (congrArg Value.bool (decide_eq_true h6)) rfl ?_
      refine s_off (b' := true) 15 rfl (congrArg Value.bool (decide_eq_true h6)) rfl ?_
      refine s_op (o_pick_t (u := (.bool true)) ((rfl : _ = _).trans (congrArg Value.bool (decide_eq_true h6))) rfl ?_)
      refine s_op (o_move (v := (.bool true)) rfl ?_)
      refine s_off (b' := true) 21 rfl rfl rfl ?_
      refine s_off (b' := true) 21 rfl rfl rfl ?_
      refine s_off (b' := true) 21 rfl rfl rfl ?_
      refine s_offu 24 rfl rfl ?_
      refine s_offu 24 rfl rfl ?_
      refine s_offu 24 rfl rfl ?_
      refine s_off (b' := true) 21 rfl rfl rfl ?_
      refine s_op (o_pick_t (u := (.bool true)) rfl rfl ?_)
      refine s_nil ?_
      refine t_norm (hK3 _ _ ?_)
      refine c_true rfl rfl ?_
      refine wp_seq_k fun K7 hK7 => ?_
      refine c_region ?_
      refine s_op (o_move (v := (S s)) rfl ?_)
      refine s_op (o_assign (v := (.int .i64 0)) rfl ?_)
      refine s_op (o_assign (v := (S s)) rfl ?_)
      refine s_op (o_assign (v := (.bool false)) rfl ?_)
      refine s_nil ?_
      refine t_norm (hK7 _ _ ?_)
      refine wp_ret ?_
      refine t_ret (c_ret3 Tryd.results49  (v := (.int .i64 0)) rfl (x := (S s)) rfl (y := (.bool false)) rfl ?_)
      exact ⟨by rw [takeS_no (by first | exact .inl (by omega) | exact .inr (.inl (by omega)) | exact .inr (.inr ⟨by omega, 0, by simpa using rfl, by omega⟩))], hH⟩
    · -- not: 8 < (m : Int)
      refine s_on 15 rfl (congrArg Value.bool (decide_eq_false h6)) (o_move (v := (S s)) rfl ?_)
      refine s_on 15 rfl (congrArg Value.bool (decide_eq_false h6)) (o_slen Tryd.underlying9 rfl ?_)
      refine s_on 15 rfl (congrArg Value.bool (decide_eq_false h6)) (o_move (v := (.int .i64 (m : Int))) rfl ?_)
      refine s_on 15 rfl (congrArg Value.bool (decide_eq_false h6)) (o_lss (a := (s.length : Int)) (b := (m : Int)) rfl rfl ?_)
      refine s_op (o_pick_f (u := (.bool (decide ((s.length : Int) < (m : Int))))) ((rfl : _ = _).trans (congrArg Value.bool (decide_eq_false h6))) rfl ?_)
      refine s_op (o_move (v := (.bool (decide ((s.length : Int) < (m : Int))))) rfl ?_)
      by_cases h8 : (s.length : Int) < (m : Int)
      · -- (s.length : Int) < (m : Int)
        refine s_off (b' := true) 21 rfl (congrArg Value.bool (decide_eq_true h8)) rfl ?_
        refine s_off (b' := true) 21 rfl (congrArg Value.bool (decide_eq_true h8)) rfl ?_
        refine s_off (b' := true) 21 rfl (congrArg Value.bool (decide_eq_true h8)) rfl ?_
        refine s_offu 24 rfl rfl ?_
        refine s_offu 24 rfl rfl ?_
        refine s_offu 24 rfl rfl ?_
        refine s_off (b' := true) 21 rfl (congrArg Value.bool (decide_eq_true h8)) rfl ?_
        refine s_op (o_pick_t (u := (.bool true)) ((rfl : _ = _).trans (congrArg Value.bool (decide_eq_true h8))) rfl ?_)
        refine s_nil ?_
        refine t_norm (hK3 _ _ ?_)
        refine c_true rfl rfl ?_
        refine wp_seq_k fun K9 hK9 => ?_
        refine c_region ?_
        refine s_op (o_move (v := (S s)) rfl ?_)
        refine s_op (o_assign (v := (.int .i64 0)) rfl ?_)
        refine s_op (o_assign (v := (S s)) rfl ?_)
        refine s_op (o_assign (v := (.bool false)) rfl ?_)
        refine s_nil ?_
        refine t_norm (hK9 _ _ ?_)
        refine wp_ret ?_
        refine t_ret (c_ret3 Tryd.results49  (v := (.int .i64 0)) rfl (x := (S s)) rfl (y := (.bool false)) rfl ?_)
        exact ⟨by rw [takeS_no (by first | exact .inl (by omega) | exact .inr (.inl (by omega)) | exact .inr (.inr ⟨by omega, 0, by simpa using rfl, by omega⟩))], hH⟩
      · -- not: (s.length : Int) < (m : Int)
        refine s_on 21 rfl (congrArg Value.bool (decide_eq_false h8)) (o_move (v := (.int .i64 (m : Int))) rfl ?_)
        refine s_on 21 rfl (congrArg Value.bool (decide_eq_false h8)) (o_eql (a := (m : Int)) (b := 8) rfl rfl ?_)
        refine s_on 21 rfl (congrArg Value.bool (decide_eq_false h8)) (o_move (v := (.bool (decide ((m : Int) = 8)))) rfl ?_)
        by_cases h10 : (m : Int) = 8
        · -- (m : Int) = 8
          refine s_on 24 rfl (congrArg Value.bool (decide_eq_true h10)) (o_move (v := (S s)) rfl ?_)
          obtain ⟨c11, hx12⟩ : ∃ x_, s[((0 : Int)).toNat]? = some x_ := get_some (by omega)
          have c11_lt := c11.toNat_lt
          refine s_on 24 rfl (congrArg Value.bool (decide_eq_true h10)) (o_sidx Tryd.underlying9 rfl rfl (by omega) hx12 ?_)
          refine s_on 24 rfl (congrArg Value.bool (decide_eq_true h10)) (o_gtr (a := (c11.toNat : Int)) (b := 127) rfl rfl ?_)
          refine s_on 21 rfl (congrArg Value.bool (decide_eq_false h8)) (o_pick_t (u := (.bool (decide (127 < (c11.toNat : Int))))) ((rfl : _ = _).trans (congrArg Value.bool (decide_eq_true h10))) rfl ?_)
          refine s_op (o_pick_f (u := (.bool (decide (127 < (c11.toNat : Int))))) ((rfl : _ = _).trans (congrArg Value.bool (decide_eq_false h8))) rfl ?_)
          refine s_nil ?_
          refine t_norm (hK3 _ _ ?_)
          refine c_cond rfl (fun h13 => ?_) (fun h13 => ?_)
          · -- 127 < (c11.toNat : Int)
            refine wp_seq_k fun K14 hK14 => ?_
            refine c_region ?_
            refine s_op (o_move (v := (S s)) rfl ?_)
            refine s_op (o_assign (v := (.int .i64 0)) rfl ?_)
            refine s_op (o_assign (v := (S s)) rfl ?_)
            refine s_op (o_assign (v := (.bool false)) rfl ?_)
            refine s_nil ?_
            refine t_norm (hK14 _ _ ?_)
            refine wp_ret ?_
            refine t_ret (c_ret3 Tryd.results49  (v := (.int .i64 0)) rfl (x := (S s)) rfl (y := (.bool false)) rfl ?_)
            exact ⟨by rw [takeS_no (by first | exact .inl (by omega) | exact .inr (.inl (by omega)) | exact .inr (.inr ⟨by omega, c11, by simpa using hx12, by omega⟩))], hH⟩
          · -- not: 127 < (c11.toNat : Int)
            refine wp_skip ?_
            refine t_norm (hK2 _ _ ?_)
            refine wp_seq_k fun K15 hK15 => ?_
            refine c_region ?_
            refine s_op (o_assign (v := (.int .i64 0)) rfl ?_)
            refine s_nil ?_
            refine t_norm (hK15 _ _ ?_)
            refine wp_seq_k fun K16 hK16 => ?_
            refine wp_seq_k fun K17 hK17 => ?_
            refine c_region ?_
            refine s_op (o_move (v := (.int .i64 (m : Int))) rfl ?_)
            refine s_op (o_move (v := (.int .i64 0)) rfl ?_)
            refine s_nil ?_
            refine t_norm (hK17 _ _ ?_)
            refine wp_block ?_
            let I19 : Nat → (Nat → Value) → World → Prop := fun n__ r__ w__ => ∃ (i : Nat) (y : Int), n__ = m - i ∧ Has E w__ [R] ∧ (i ≤ m) ∧ (y = beVal (s.take i)) ∧ r__ 0 = (S s) ∧ r__ 1 = (.int .i64 (m : Int)) ∧ r__ 4 = (.int .i64 0) ∧ r__ 5 = (S ([] : List UInt8)) ∧ r__ 6 = (.bool false) ∧ r__ 7 = (.int .i64 y) ∧ r__ 29 = (.bool (decide (127 < (c11.toNat : Int)))) ∧ r__ 31 = (.int .i64 (m : Int)) ∧ r__ 32 = (.int .i64 (i : Int))
            refine c_loop I19 _ ⟨0, 0, rfl, hH, Nat.zero_le _, rfl, rfl, rfl, rfl, rfl, rfl, rfl, rfl, rfl, rfl⟩ ?_
            rintro n_ r22 w20 ⟨i, y, rfl, hH21, hi, hy, e18_0, e18_1, e18_4, e18_5, e18_6, e18_7, e18_29, e18_31, e18_32⟩
            have hb0 := beVal_nonneg (s.take i)
            have hb1 : i < m → beVal (s.take i) < 36028797018963968 := fun h => beVal_lt h (by omega) (by omega) (.inr (first_byte (by simpa using hx12) (by omega)))
            refine wp_seq_k fun K23 hK23 => ?_
            refine c_region ?_
            refine s_op (o_lss (a := (i : Int)) (b := (m : Int)) e18_32 e18_31 ?_)
            refine s_nil ?_
            refine t_norm (hK23 _ _ ?_)
            refine wp_seq_k fun K24 hK24 => ?_
            refine c_cond rfl (fun h25 => ?_) (fun h25 => ?_)
            · -- (i : Int) < (m : Int)
              refine wp_skip ?_
              refine t_norm (hK24 _ _ ?_)
              refine wp_seq_k fun K26 hK26 => ?_
              refine wp_block ?_
              refine wp_seq_k fun K27 hK27 => ?_
              refine c_region ?_
              refine s_op (o_move (v := (.int .i64 (i : Int))) e18_32 ?_)
              refine s_op (o_assign (v := (.int .i64 (i : Int))) rfl ?_)
              refine s_nil ?_
              refine t_norm (hK27 _ _ ?_)
              refine c_region ?_
              refine s_op (o_move (v := (.int .i64 y)) e18_7 ?_)
              refine s_op (o_shl (c := y * 256) rfl rfl (by omega) (shl_lit (by omega) (by omega) rfl) ?_)
              refine s_op (o_move (v := (S s)) e18_0 ?_)
              refine s_op (o_move (v := (.int .i64 (i : Int))) rfl ?_)
              obtain ⟨c28, hx29⟩ : ∃ x_, s[((i : Int)).toNat]? = some x_ := get_some (by omega)
              have c28_lt := c28.toNat_lt
              refine s_op (o_sidx Tryd.underlying9 rfl rfl (by omega) hx29 ?_)
              refine s_op (o_conv Tryd.underlying5 Tryd.underlying3 rfl (w_u8 _) ?_)
              refine s_op (o_or (c := y * 256 + (c28.toNat : Int)) rfl rfl (or8 (by omega) (by omega) _) ?_)
              refine s_op (o_assign (v := (.int .i64 (y * 256 + (c28.toNat : Int)))) rfl ?_)
              refine s_nil ?_
              refine b_norm ?_
              refine t_norm (hK26 _ _ ?_)
              refine c_region ?_
              refine s_op (o_add (a := (i : Int)) (b := 1) e18_32 rfl (w64 (by omega) (by omega)) ?_)
              refine s_op (o_move (v := (.int .i64 ((i : Int) + 1))) rfl ?_)
              refine s_nil ?_
              refine t_norm ⟨m - (i + 1), _, rfl, ?_, ?_⟩
              · omega
              · exact ⟨(i + 1), (y * 256 + (c28.toNat : Int)), rfl, hH21, (by omega), (by rw [take_succ_of (by simpa using hx29), beVal_snoc, ← hy]), e18_0, e18_1, e18_4, e18_5, e18_6, rfl, e18_29, e18_31, rfl⟩
            · -- not: (i : Int) < (m : Int)
              refine wp_exit ?_
              refine t_exit (t_exit (x_in (?_)))
              refine t_norm (hK16 _ _ ?_)
              refine wp_seq_k fun K30 hK30 => ?_
              refine Rest.region mixed (by kernel_rfl) ?_
              have hH31 : Has E { w20 with drawn := w20.drawn + 1 } [R] := Has0.drew hH21 _
              refine Rest.phaseA (fun w_ => Has E w_ []) 0 5 5 rfl (by decide) (by kernel_rfl) ?_
              refine a_op 0 rfl (by kernel_rfl) (fun w_ h_ => o_move (v := (.int .i64 y)) e18_7 ⟨rfl, rfl⟩) ?_
              refine a_op 1 rfl (by kernel_rfl) (fun w_ h_ => o_move (v := (S s)) e18_0 ⟨rfl, rfl⟩) ?_
              refine a_op 2 rfl (by kernel_rfl) (fun w_ h_ => o_move (v := (.int .i64 (m : Int))) e18_1 ⟨rfl, rfl⟩) ?_
              refine a_op 3 rfl (by kernel_rfl) (fun w_ h_ => o_ssl_l Tryd.underlying9 rfl rfl (by omega) (by omega) ⟨rfl, rfl⟩) ?_
              refine a_op 4 rfl (by kernel_rfl) (fun w_ h_ => o_assign (v := (.int .i64 y)) rfl ⟨rfl, rfl⟩) ?_
              have hH32 : Has E { w20 with drawn := w20.drawn + 1 } [] := hH31.first 0 rfl
              refine a_done (by kernel_rfl) hH32 ?_
              refine r_op 5 rfl (by kernel_rfl) (o_assign (v := (S (s.drop ((m : Int)).toNat))) rfl ?_)
              refine r_op 6 rfl (by kernel_rfl) (o_assign (v := (.bool true)) rfl ?_)
              refine Rest.done (by kernel_rfl) ?_
              refine t_norm (hK30 _ _ ?_)
              refine wp_ret ?_
              refine c_ret3 Tryd.results49  (v := (.int .i64 y)) rfl (x := (S (s.drop ((m : Int)).toNat))) rfl (y := (.bool true)) rfl ?_
              have e : i = m := by omega
              rw [e] at hy
              exact ⟨by rw [takeS_yes (by omega) (by omega) (by omega) (.inr (first_byte (by simpa using hx12) (by omega))), hy]; rfl, hH31⟩
        · -- not: (m : Int) = 8
          refine s_off (b' := false) 24 rfl (congrArg Value.bool (decide_eq_false h10)) rfl ?_
          refine s_off (b' := false) 24 rfl (congrArg Value.bool (decide_eq_false h10)) rfl ?_
          refine s_off (b' := false) 24 rfl (congrArg Value.bool (decide_eq_false h10)) rfl ?_
          refine s_on 21 rfl (congrArg Value.bool (decide_eq_false h8)) (o_pick_f (u := (.bool false)) ((rfl : _ = _).trans (congrArg Value.bool (decide_eq_false h10))) rfl ?_)
          refine s_op (o_pick_f (u := (.bool false)) ((rfl : _ = _).trans (congrArg Value.bool (decide_eq_false h8))) rfl ?_)
          refine s_nil ?_
          refine t_norm (hK3 _ _ ?_)
          refine c_false rfl rfl ?_
          refine wp_skip ?_
          refine t_norm (hK2 _ _ ?_)
          refine wp_seq_k fun K33 hK33 => ?_
          refine c_region ?_
          refine s_op (o_assign (v := (.int .i64 0)) rfl ?_)
          refine s_nil ?_
          refine t_norm (hK33 _ _ ?_)
          refine wp_seq_k fun K34 hK34 => ?_
          refine wp_seq_k fun K35 hK35 => ?_
          refine c_region ?_
          refine s_op (o_move (v := (.int .i64 (m : Int))) rfl ?_)
          refine s_op (o_move (v := (.int .i64 0)) rfl ?_)
          refine s_nil ?_
          refine t_norm (hK35 _ _ ?_)
          refine wp_block ?_
          let I37 : Nat → (Nat → Value) → World → Prop := fun n__ r__ w__ => ∃ (i : Nat) (y : Int), n__ = m - i ∧ Has E w__ [R] ∧ (i ≤ m) ∧ (y = beVal (s.take i)) ∧ r__ 0 = (S s) ∧ r__ 1 = (.int .i64 (m : Int)) ∧ r__ 4 = (.int .i64 0) ∧ r__ 5 = (S ([] : List UInt8)) ∧ r__ 6 = (.bool false) ∧ r__ 7 = (.int .i64 y) ∧ r__ 29 = (.bool false) ∧ r__ 31 = (.int .i64 (m : Int)) ∧ r__ 32 = (.int .i64 (i : Int))
          refine c_loop I37 _ ⟨0, 0, rfl, hH, Nat.zero_le _, rfl, rfl, rfl, rfl, rfl, rfl, rfl, rfl, rfl, rfl⟩ ?_
          rintro n_ r40 w38 ⟨i, y, rfl, hH39, hi, hy, e36_0, e36_1, e36_4, e36_5, e36_6, e36_7, e36_29, e36_31, e36_32⟩
          have hb0 := beVal_nonneg (s.take i)
          have hb1 : i < m → beVal (s.take i) < 36028797018963968 := fun h => beVal_lt h (by omega) (by omega) (.inl (by omega))
          refine wp_seq_k fun K41 hK41 => ?_
          refine c_region ?_
          refine s_op (o_lss (a := (i : Int)) (b := (m : Int)) e36_32 e36_31 ?_)
          refine s_nil ?_
          refine t_norm (hK41 _ _ ?_)
          refine wp_seq_k fun K42 hK42 => ?_
          refine c_cond rfl (fun h43 => ?_) (fun h43 => ?_)
          · -- (i : Int) < (m : Int)
            refine wp_skip ?_
            refine t_norm (hK42 _ _ ?_)
            refine wp_seq_k fun K44 hK44 => ?_
            refine wp_block ?_
            refine wp_seq_k fun K45 hK45 => ?_
            refine c_region ?_
            refine s_op (o_move (v := (.int .i64 (i : Int))) e36_32 ?_)
            refine s_op (o_assign (v := (.int .i64 (i : Int))) rfl ?_)
            refine s_nil ?_
            refine t_norm (hK45 _ _ ?_)
            refine c_region ?_
            refine s_op (o_move (v := (.int .i64 y)) e36_7 ?_)
            refine s_op (o_shl (c := y * 256) rfl rfl (by omega) (shl_lit (by omega) (by omega) rfl) ?_)
            refine s_op (o_move (v := (S s)) e36_0 ?_)
            refine s_op (o_move (v := (.int .i64 (i : Int))) rfl ?_)
            obtain ⟨c46, hx47⟩ : ∃ x_, s[((i : Int)).toNat]? = some x_ := get_some (by omega)
            have c46_lt := c46.toNat_lt
            refine s_op (o_sidx Tryd.underlying9 rfl rfl (by omega) hx47 ?_)
            refine s_op (o_conv Tryd.underlying5 Tryd.underlying3 rfl (w_u8 _) ?_)
            refine s_op (o_or (c := y * 256 + (c46.toNat : Int)) rfl rfl (or8 (by omega) (by omega) _) ?_)
            refine s_op (o_assign (v := (.int .i64 (y * 256 + (c46.toNat : Int)))) rfl ?_)
            refine s_nil ?_
            refine b_norm ?_
            refine t_norm (hK44 _ _ ?_)
            refine c_region ?_
            refine s_op (o_add (a := (i : Int)) (b := 1) e36_32 rfl (w64 (by omega) (by omega)) ?_)
            refine s_op (o_move (v := (.int .i64 ((i : Int) + 1))) rfl ?_)
            refine s_nil ?_
            refine t_norm ⟨m - (i + 1), _, rfl, ?_, ?_⟩
            · omega
            · exact ⟨(i + 1), (y * 256 + (c46.toNat : Int)), rfl, hH39, (by omega), (by rw [take_succ_of (by simpa using hx47), beVal_snoc, ← hy]), e36_0, e36_1, e36_4, e36_5, e36_6, rfl, e36_29, e36_31, rfl⟩
          · -- not: (i : Int) < (m : Int)
            refine wp_exit ?_
            refine t_exit (t_exit (x_in (?_)))
            refine t_norm (hK34 _ _ ?_)
            refine wp_seq_k fun K48 hK48 => ?_
            refine Rest.region mixed (by kernel_rfl) ?_
            have hH49 : Has E { w38 with drawn := w38.drawn + 1 } [R] := Has0.drew hH39 _
            refine Rest.phaseA (fun w_ => Has E w_ []) 0 5 5 rfl (by decide) (by kernel_rfl) ?_
            refine a_op 0 rfl (by kernel_rfl) (fun w_ h_ => o_move (v := (.int .i64 y)) e36_7 ⟨rfl, rfl⟩) ?_
            refine a_op 1 rfl (by kernel_rfl) (fun w_ h_ => o_move (v := (S s)) e36_0 ⟨rfl, rfl⟩) ?_
            refine a_op 2 rfl (by kernel_rfl) (fun w_ h_ => o_move (v := (.int .i64 (m : Int))) e36_1 ⟨rfl, rfl⟩) ?_
            refine a_op 3 rfl (by kernel_rfl) (fun w_ h_ => o_ssl_l Tryd.underlying9 rfl rfl (by omega) (by omega) ⟨rfl, rfl⟩) ?_
            refine a_op 4 rfl (by kernel_rfl) (fun w_ h_ => o_assign (v := (.int .i64 y)) rfl ⟨rfl, rfl⟩) ?_
            have hH50 : Has E { w38 with drawn := w38.drawn + 1 } [] := hH49.first 0 rfl
            refine a_done (by kernel_rfl) hH50 ?_
            refine r_op 5 rfl (by kernel_rfl) (o_assign (v := (S (s.drop ((m : Int)).toNat))) rfl ?_)
            refine r_op 6 rfl (by kernel_rfl) (o_assign (v := (.bool true)) rfl ?_)
            refine Rest.done (by kernel_rfl) ?_
            refine t_norm (hK48 _ _ ?_)
            refine wp_ret ?_
            refine c_ret3 Tryd.results49  (v := (.int .i64 y)) rfl (x := (S (s.drop ((m : Int)).toNat))) rfl (y := (.bool true)) rfl ?_
            have e : i = m := by omega
            rw [e] at hy
            exact ⟨by rw [takeS_yes (by omega) (by omega) (by omega) (.inl (by omega)), hy]; rfl, hH49⟩
end Go.Q
namespace Go.Q
theorem two_pow8 (j : Nat) : ((2 : Int) ^ (8 * j)) = ((256 ^ j : Nat) : Int) := by
  induction j with
  | zero => rfl
  | succ j ih => rw [Nat.mul_succ, Int.pow_add, ih, Nat.pow_succ, Int.natCast_mul]; rfl
theorem by8_nat (m : Nat) (j : Nat) : (by8 ((m : Int) / 2 ^ (8 * j))).toNat = m / 256 ^ j % 256 := by
  unfold by8
  rw [UInt8.toNat_ofNat', two_pow8, ← Int.natCast_ediv]
  omega
theorem fold_be (m : Nat) : ∀ (j : Nat) (acc : Int), (beFrom (m : Int) j).foldl (fun n b => n * 256 + (b.toNat : Int)) acc = acc * ((256 ^ j : Nat) : Int) + ((m % 256 ^ j : Nat) : Int)
  | 0, acc => by simp [beFrom, Nat.mod_one]
  | j + 1, acc => by
    rw [show beFrom (m : Int) (j + 1) = by8 ((m : Int) / 2 ^ (8 * j)) :: beFrom (m : Int) j from rfl, List.foldl_cons, fold_be m j, by8_nat, Nat.pow_succ, Nat.mod_mul, Int.add_mul, Int.mul_assoc, Int.natCast_mul, Int.natCast_add, Int.natCast_mul, Int.mul_comm 256, Int.mul_comm ((m / 256 ^ j % 256 : Nat) : Int), show ((256 : Nat) : Int) = 256 from rfl]
    omega
theorem beVal_be (m j : Nat) (h : m < 256 ^ j) : beVal (beFrom (m : Int) j) = m := by
  rw [beVal, fold_be, Nat.mod_eq_of_lt h]; omega
/-- a number that fits is below the power -/
theorem fits_nat {n : Int} {k : Nat} (h : fitsS n k = true) (h1 : 1 ≤ k) (h8 : k ≤ 8) (hn : n ≤ 9223372036854775807) : ∃ m : Nat, n = m ∧ m < 256 ^ k ∧ m ≤ 9223372036854775807 := by
  simp only [fitsS, Bool.and_eq_true, Bool.or_eq_true, decide_eq_true_eq] at h
  obtain ⟨h0, h2⟩ := h
  refine ⟨n.toNat, by omega, ?_, by omega⟩
  rcases h2 with h2 | h2
  · obtain rfl : k = 8 := by omega
    omega
  · rw [show (min (8 * (k : Int)).toNat 64) = 8 * k from by omega, two_pow8, Int.fdiv_eq_ediv_of_nonneg _ (Int.natCast_nonneg _), show n = ((n.toNat : Nat) : Int) from by omega, ← Int.natCast_ediv] at h2
    have h3 : n.toNat / 256 ^ k = 0 := by omega
    exact (Nat.div_eq_zero_iff.1 h3).resolve_left (Nat.pos_iff_ne_zero.1 (Nat.pow_pos (by omega)))
theorem be_first {m : Nat} (h : m ≤ 9223372036854775807) : ∀ c, (beFrom (m : Int) 8)[0]? = some c → c.toNat ≤ 127 := by
  intro c hc
  rw [show beFrom (m : Int) 8 = by8 ((m : Int) / 2 ^ (8 * 7)) :: beFrom (m : Int) 7 from rfl] at hc
  have : c = by8 ((m : Int) / 2 ^ (8 * 7)) := by simpa using hc.symm
  subst this
  rw [by8_nat]
  omega
theorem put_one_fits {n : Int} {k : Nat} (h1 : 1 ≤ k) (h8 : k ≤ 8) (h : fitsS n k = true) : putS k [n] = beFrom n k := by
  rw [putS_yes h1 h8 (by simpa using h)]; simp
theorem put_one_no {n : Int} {k : Nat} (h1 : 1 ≤ k) (h8 : k ≤ 8) (h : putS k [n] = []) : fitsS n k = false := by
  cases hf : fitsS n k with
  | false => rfl
  | true =>
    rw [put_one_fits h1 h8 hf] at h
    have := congrArg List.length h
    rw [beFrom_length] at this
    simp at this; omega
theorem put_one_yes {n : Int} {k : Nat} (h1 : 1 ≤ k) (h8 : k ≤ 8) (h : putS k [n] ≠ []) : fitsS n k = true := by
  cases hf : fitsS n k with
  | true => rfl
  | false => exact absurd (putS_no (List.mem_singleton.2 rfl) hf) h
theorem back_law {n : Int} {k : Nat} {more : List UInt8} (h1 : 1 ≤ k) (h8 : k ≤ 8) (hn : n ≤ 9223372036854775807) (h : putS k [n] ≠ []) : takeS (putS k [n] ++ more) k = (n, more, true) := by
  have hf := put_one_yes h1 h8 h
  obtain ⟨m, rfl, hm, hm2⟩ := fits_nat hf h1 h8 hn
  rw [put_one_fits h1 h8 hf, takeS_yes h1 h8 (by rw [List.length_append, beFrom_length]; omega) ?_]
  · rw [List.take_left' (beFrom_length _ _), List.drop_left' (beFrom_length _ _), beVal_be m k hm]
  · rcases Nat.lt_or_ge k 8 with g | g
    · exact .inl (by omega)
    · obtain rfl : k = 8 := by omega
      refine .inr fun c hc => be_first hm2 c ?_
      rw [List.getElem?_append_left (by rw [beFrom_length]; omega)] at hc
      exact hc
theorem div_mod_pow (x j : Nat) : x / 256 ^ j % 256 = x % 256 ^ (j + 1) / 256 ^ j := by rw [Nat.pow_succ, Nat.mod_mul_right_div_self]
theorem be_mod (x k : Nat) : ∀ j, j ≤ k → beFrom (x : Int) j = beFrom ((x % 256 ^ k : Nat) : Int) j
  | 0, _ => rfl
  | j + 1, h => by
    show by8 ((x : Int) / 2 ^ (8 * j)) :: beFrom (x : Int) j = by8 (((x % 256 ^ k : Nat) : Int) / 2 ^ (8 * j)) :: beFrom ((x % 256 ^ k : Nat) : Int) j
    rw [be_mod x k j (by omega)]
    congr 1
    rw [← UInt8.toNat_inj, by8_nat, by8_nat, div_mod_pow, div_mod_pow, Nat.mod_mod_of_dvd _ (Nat.pow_dvd_pow 256 h)]
theorem be_less : ∀ (k a b : Nat), a < 256 ^ k → b < 256 ^ k → Op.bytesLess (beFrom (a : Int) k) (beFrom (b : Int) k) = decide (a < b)
  | 0, a, b, ha, hb => by simp at ha hb; subst ha hb; rfl
  | k + 1, a, b, ha, hb => by
    have hp : 0 < 256 ^ k := Nat.pow_pos (by omega)
    show (by8 ((a : Int) / 2 ^ (8 * k)) < by8 ((b : Int) / 2 ^ (8 * k)) || (by8 ((a : Int) / 2 ^ (8 * k)) == by8 ((b : Int) / 2 ^ (8 * k)) && Op.bytesLess (beFrom (a : Int) k) (beFrom (b : Int) k))) = _
    rw [be_mod a k k (Nat.le_refl _), be_mod b k k (Nat.le_refl _), be_less k _ _ (Nat.mod_lt _ hp) (Nat.mod_lt _ hp)]
    have qa : a / 256 ^ k < 256 := (Nat.div_lt_iff_lt_mul hp).2 (by rw [Nat.pow_succ] at ha; omega)
    have qb : b / 256 ^ k < 256 := (Nat.div_lt_iff_lt_mul hp).2 (by rw [Nat.pow_succ] at hb; omega)
    have e1 : (by8 ((a : Int) / 2 ^ (8 * k)) < by8 ((b : Int) / 2 ^ (8 * k))) ↔ a / 256 ^ k < b / 256 ^ k := by
      rw [UInt8.lt_iff_toNat_lt, by8_nat, by8_nat, Nat.mod_eq_of_lt qa, Nat.mod_eq_of_lt qb]
    have e2 : (by8 ((a : Int) / 2 ^ (8 * k)) = by8 ((b : Int) / 2 ^ (8 * k))) ↔ a / 256 ^ k = b / 256 ^ k := by
      rw [← UInt8.toNat_inj, by8_nat, by8_nat, Nat.mod_eq_of_lt qa, Nat.mod_eq_of_lt qb]
    have da := Nat.div_add_mod a (256 ^ k)
    have db := Nat.div_add_mod b (256 ^ k)
    rw [Bool.eq_iff_iff]
    simp only [Bool.or_eq_true, Bool.and_eq_true, decide_eq_true_eq, beq_iff_eq, e1, e2]
    rcases Nat.lt_trichotomy (a / 256 ^ k) (b / 256 ^ k) with g | g | g
    · exact ⟨fun _ => Nat.lt_of_div_lt_div g, fun _ => .inl g⟩
    · rw [← g] at db
      constructor
      · rintro (h | ⟨_, h⟩)
        · omega
        · omega
      · intro h; exact .inr ⟨g, by omega⟩
    · have := Nat.lt_of_div_lt_div g
      constructor
      · rintro (h | ⟨h, _⟩) <;> omega
      · intro h; omega
theorem be_inj (k a b : Nat) (ha : a < 256 ^ k) (hb : b < 256 ^ k) (h : beFrom (a : Int) k = beFrom (b : Int) k) : a = b := by
  have h1 := beVal_be a k ha
  rw [h, beVal_be b k hb] at h1
  omega
end Go.Q
namespace Go.Q
theorem put_one_len (k : Nat) (n : Int) : (putS k [n]).length ≤ 8 := by
  unfold putS
  split
  · rename_i h; simp [beFrom_length]; omega
  · simp
theorem put_two_no {k : Nat} {a b : Int} (h1 : 1 ≤ k) (h8 : k ≤ 8) (h : putS k [a] = [] ∨ putS k [b] = []) : putS k [a, b] = [] := by
  rcases h with h | h
  · exact putS_no (List.mem_cons_self ..) (put_one_no h1 h8 h)
  · exact putS_no (List.mem_cons_of_mem _ (List.mem_singleton.2 rfl)) (put_one_no h1 h8 h)
theorem put_two {k : Nat} {a b : Int} (h1 : 1 ≤ k) (h8 : k ≤ 8) (ha : putS k [a] ≠ []) (hb : putS k [b] ≠ []) : putS k [a, b] = putS k [a] ++ putS k [b] := by
  have fa := put_one_yes h1 h8 ha
  have fb := put_one_yes h1 h8 hb
  rw [put_one_fits h1 h8 fa, put_one_fits h1 h8 fb, putS_yes h1 h8 (by simp [fa, fb])]
  simp
theorem put_one_length {k : Nat} {a : Int} (h1 : 1 ≤ k) (h8 : k ≤ 8) (ha : putS k [a] ≠ []) : (putS k [a]).length = k := by
  rw [put_one_fits h1 h8 (put_one_yes h1 h8 ha), beFrom_length]
theorem rises_less {k : Nat} {a b : Int} (h1 : 1 ≤ k) (h8 : k ≤ 8) (ha : putS k [a] ≠ []) (hb : putS k [b] ≠ []) (ma : a ≤ 9223372036854775807) (mb : b ≤ 9223372036854775807) : Op.bytesLess (putS k [a]) (putS k [b]) = decide (a < b) := by
  have fa := put_one_yes h1 h8 ha
  have fb := put_one_yes h1 h8 hb
  rw [put_one_fits h1 h8 fa, put_one_fits h1 h8 fb]
  obtain ⟨x, rfl, hx, _⟩ := fits_nat fa h1 h8 ma
  obtain ⟨y, rfl, hy, _⟩ := fits_nat fb h1 h8 mb
  rw [be_less k x y hx hy]
  simp
theorem rises_same {k : Nat} {a b : Int} (h1 : 1 ≤ k) (h8 : k ≤ 8) (ha : putS k [a] ≠ []) (hb : putS k [b] ≠ []) (ma : a ≤ 9223372036854775807) (mb : b ≤ 9223372036854775807) : decide (putS k [a] = putS k [b]) = decide (a = b) := by
  have fa := put_one_yes h1 h8 ha
  have fb := put_one_yes h1 h8 hb
  rw [put_one_fits h1 h8 fa, put_one_fits h1 h8 fb]
  obtain ⟨x, rfl, hx, _⟩ := fits_nat fa h1 h8 ma
  obtain ⟨y, rfl, hy, _⟩ := fits_nat fb h1 h8 mb
  by_cases e : x = y
  · subst e; simp
  · rw [decide_eq_false (fun h => e (be_inj k x y hx hy h)), decide_eq_false (by omega)]
end Go.Q
namespace Go.Q
theorem be_zero (n : Nat) (i : Nat) (h : n < 256 ^ i) : ∀ j, beFrom (n : Int) (i + j) = List.replicate j (0 : UInt8) ++ beFrom (n : Int) i
  | 0 => rfl
  | j + 1 => by
    show by8 ((n : Int) / 2 ^ (8 * (i + j))) :: beFrom (n : Int) (i + j) = _
    rw [be_zero n i h j, List.replicate_succ]
    have : by8 ((n : Int) / 2 ^ (8 * (i + j))) = 0 := by
      rw [← UInt8.toNat_inj, by8_nat, Nat.div_eq_of_lt (Nat.lt_of_lt_of_le h (Nat.pow_le_pow_right (by omega) (by omega)))]; rfl
    rw [this]; rfl
theorem set_put {j : Nat} {l : List UInt8} {b : UInt8} (h : 0 < j) : (List.replicate j (0 : UInt8) ++ l).set (j - 1) b = List.replicate (j - 1) 0 ++ b :: l := by
  obtain ⟨i, rfl⟩ : ∃ i, j = i + 1 := ⟨j - 1, by omega⟩
  rw [Nat.add_sub_cancel, List.replicate_succ', List.append_assoc, List.set_append_right _ _ (by simp)]
  simp
theorem by8_mod (y : Int) : by8 (y % 256) = by8 y := by unfold by8; rw [Int.emod_emod_of_dvd _ (by decide)]
theorem fits_iff {n : Nat} {m : Nat} (h8 : m ≤ 8) (hn : (n : Int) ≤ 9223372036854775807) : fitsS (n : Int) m = decide (n < 256 ^ m) := by
  rw [Bool.eq_iff_iff]
  simp only [fitsS, Bool.and_eq_true, Bool.or_eq_true, decide_eq_true_eq]
  rw [show (min (8 * (m : Int)).toNat 64) = 8 * m from by omega, two_pow8, Int.fdiv_eq_ediv_of_nonneg _ (Int.natCast_nonneg _), ← Int.natCast_ediv]
  have hp : 0 < 256 ^ m := Nat.pow_pos (by omega)
  constructor
  · rintro ⟨_, h | h⟩
    · obtain rfl : m = 8 := by omega
      omega
    · exact (Nat.div_eq_zero_iff.1 (by omega : n / 256 ^ m = 0)).resolve_left (by omega)
  · intro h; exact ⟨by omega, .inr (by rw [Nat.div_eq_of_lt h]; rfl)⟩
end Go.Q
namespace Go.Q
theorem refput_set {lc : List UInt8} {n y i : Int} {m j : Nat} (h : lc = List.replicate j 0 ++ beFrom n (m - j)) (h0 : 0 < j) (hj : j ≤ m) (hi : i = (j : Int) - 1) (hy : 0 ≤ n → y = n / ((256 ^ (m - j) : Nat) : Int)) (hn : 0 ≤ n) :
    lc.set i.toNat (by8 (y % 256)) = List.replicate (j - 1) 0 ++ beFrom n (m - (j - 1)) := by
  rw [h, show i.toNat = j - 1 from by omega, set_put h0, by8_mod, hy hn, show m - (j - 1) = (m - j) + 1 from by omega]
  congr 1
  show _ = by8 (n / 2 ^ (8 * (m - j))) :: beFrom n (m - j)
  rw [two_pow8]
theorem refput_div {n y : Int} {m j : Nat} (hy : 0 ≤ n → y = n / ((256 ^ (m - j) : Nat) : Int)) (h0 : 0 < j) (hj : j ≤ m) : 0 ≤ n → y / 256 = n / ((256 ^ (m - (j - 1)) : Nat) : Int) := by
  intro hn
  rw [hy hn, show m - (j - 1) = (m - j) + 1 from by omega, Nat.pow_succ, Int.natCast_mul, Int.ediv_ediv_of_nonneg (Int.natCast_nonneg _)]; rfl
theorem refput_low {n y : Int} {m j : Nat} (hj : j ≤ m) (hy : 0 ≤ n → y = n / ((256 ^ (m - j) : Nat) : Int)) (hn : 0 ≤ n) (h : j = 0 ∨ y ≤ 0) (hy0 : y = 0) : n.toNat < 256 ^ (m - j) := by
  have := hy hn
  rw [hy0, show n = ((n.toNat : Nat) : Int) from by omega, ← Int.natCast_ediv] at this
  exact (Nat.div_eq_zero_iff.1 (by omega : n.toNat / 256 ^ (m - j) = 0)).resolve_left (Nat.pos_iff_ne_zero.1 (Nat.pow_pos (by omega)))
theorem refput_ok {n y : Int} {m j : Nat} (hm : 1 ≤ m ∧ m ≤ 8) (hn : -9223372036854775808 ≤ n ∧ n ≤ 9223372036854775807) (hj : j ≤ m) (hy : 0 ≤ n → y = n / ((256 ^ (m - j) : Nat) : Int)) (hneg : n < 0 → j = m ∧ y = n) (h : j = 0 ∨ y ≤ 0) : decide (y = 0) = fitsS n m := by
  rcases (by omega : n < 0 ∨ 0 ≤ n) with g | g
  · rw [decide_eq_false (by have := hneg g; omega)]
    simp only [fitsS]
    rw [decide_eq_false (by omega)]; rfl
  · have e : n = ((n.toNat : Nat) : Int) := by omega
    rw [e, fits_iff hm.2 (by omega)]
    have hyn : 0 ≤ y := by rw [hy g]; exact Int.ediv_nonneg g (Int.natCast_nonneg _)
    have hy' := hy g
    rw [e, ← Int.natCast_ediv] at hy'
    by_cases hy0 : y = 0
    · have := refput_low hj hy g h hy0
      rw [decide_eq_true hy0, decide_eq_true (Nat.lt_of_lt_of_le this (Nat.pow_le_pow_right (by omega) (by omega)))]
    · have hj0 : j = 0 := by omega
      subst hj0
      rw [decide_eq_false hy0, decide_eq_false]
      intro hl
      rw [Nat.sub_zero, Nat.div_eq_of_lt hl] at hy'
      exact hy0 hy'
theorem refput_be {n y : Int} {m j : Nat} {lc : List UInt8} (hm : 1 ≤ m ∧ m ≤ 8) (hn : -9223372036854775808 ≤ n ∧ n ≤ 9223372036854775807) (hj : j ≤ m) (hlc : lc = List.replicate j 0 ++ beFrom n (m - j)) (hy : 0 ≤ n → y = n / ((256 ^ (m - j) : Nat) : Int)) (hneg : n < 0 → j = m ∧ y = n) (h : j = 0 ∨ y ≤ 0) :
    fitsS n m = true → lc = beFrom n m := by
  intro hf
  rw [← refput_ok hm hn hj hy hneg h, decide_eq_true_eq] at hf
  rcases (by omega : n < 0 ∨ 0 ≤ n) with g | g
  · have := hneg g; omega
  · have hl := refput_low hj hy g h hf
    have := be_zero n.toNat (m - j) hl j
    rw [show ((n.toNat : Nat) : Int) = n from by omega, show m - j + j = m from by omega] at this
    rw [hlc, this]
end Go.Q
namespace Go.Q
theorem take_true {s : List UInt8} {m : Nat} (h : (takeS s m).2.2 = true) : 1 ≤ m ∧ m ≤ s.length ∧ (takeS s m).2.1 = s.drop m := by
  unfold takeS at h ⊢
  split at h
  · rename_i g; rw [if_pos g]; exact ⟨g.1, g.2.2.1, rfl⟩
  · cases h
theorem take_false {s : List UInt8} {m : Nat} (h : (takeS s m).2.2 = false) : (takeS s m).2.1 = s := by
  unfold takeS at h ⊢
  split at h
  · cases h
  · rename_i g; rw [if_neg g]
theorem put_none {m : Nat} {l : List Int} (h : ¬ (1 ≤ m ∧ m ≤ 8) ∨ ∃ x ∈ l, fitsS x m = false) : putS m l = [] := by
  rcases h with h | ⟨x, hx, h⟩
  · rw [putS, if_neg (fun g => h ⟨g.1, g.2.1⟩)]
  · exact putS_no hx h
theorem fits_nonneg {n : Int} {m : Nat} (h : fitsS n m = true) : 0 ≤ n := by
  simp only [fitsS, Bool.and_eq_true, decide_eq_true_eq] at h; exact h.1
end Go.Q
namespace Go.Q
open Go.Proofs
set_option linter.unusedVariables false
set_option maxRecDepth 100000
attribute [local irreducible] wpList OK Code.wp
set_option maxHeartbeats 4000000 in
theorem refPut_c {E w : World} {R : List Hp} (hH : Has E w [R]) (m : Nat) (hm : 1 ≤ m ∧ m ≤ 8) (n : Int) (hn : -9223372036854775808 ≤ n ∧ n ≤ 9223372036854775807) :
    Calls Tryd.prog 84 #[(.int .i64 (m : Int)), (.int .i64 n)] w fun e w' => ∃ t : List UInt8, e = .returned (.tuple #[S t, .bool (fitsS n m)]) ∧ t.length = m ∧ (fitsS n m = true → t = beFrom n m) ∧ Has E w' [R] := by
  refine c_enter (args := [(.int .i64 (m : Int)), (.int .i64 n)]) Tryd.func84 rfl Tryd.ntmps84 (by simp) ?_
  refine wp_seq_k fun K1 hK1 => ?_
  refine c_region ?_
  refine s_op (o_assign (v := (S ([] : List UInt8))) rfl ?_)
  refine s_op (o_assign (v := (.bool false)) rfl ?_)
  refine s_nil ?_
  refine t_norm (hK1 _ _ ?_)
  refine wp_seq_k fun K2 hK2 => ?_
  refine c_region ?_
  refine s_op (o_assign (v := (.slice none 0 0)) rfl ?_)
  refine s_nil ?_
  refine t_norm (hK2 _ _ ?_)
  refine wp_seq_k fun K3 hK3 => ?_
  refine wp_seq_k fun K4 hK4 => ?_
  refine c_region ?_
  refine s_op (o_assign (v := (.int .i64 0)) rfl ?_)
  refine s_nil ?_
  refine t_norm (hK4 _ _ ?_)
  refine wp_block ?_
  let I6 : Nat → (Nat → Value) → World → Prop := fun n__ r__ w__ => ∃ (k : Nat) (vb : Value) (hs : List Hp) (lb : List UInt8), n__ = m - k ∧ Has E w__ [hs, R] ∧ (k ≤ m) ∧ (Own 5 1 vb lb.length (lb.map bV) hs) ∧ (lb = List.replicate k 0) ∧ (lb.length = k) ∧ r__ 0 = (.int .i64 (m : Int)) ∧ r__ 1 = (.int .i64 n) ∧ r__ 4 = (S ([] : List UInt8)) ∧ r__ 5 = (.bool false) ∧ r__ 6 = vb ∧ r__ 7 = (.int .i64 (k : Int))
  have hH7 : Has E w [[], R] := (Has.nil hH).first 2 rfl
  refine c_loop I6 _ ⟨0, (.slice none 0 0), [], [], rfl, hH7, Nat.zero_le _, Own.nil 5 1, rfl, rfl, rfl, rfl, rfl, rfl, rfl, rfl⟩ ?_
  rintro n_ r10 w8 ⟨k, vb, hs, lb, rfl, hH9, hk, hob, hlb, hll, e5_0, e5_1, e5_4, e5_5, e5_6, e5_7⟩
  refine wp_seq_k fun K11 hK11 => ?_
  refine wp_seq_k fun K12 hK12 => ?_
  refine c_region ?_
  refine s_op (o_move (v := (.int .i64 (k : Int))) e5_7 ?_)
  refine s_op (o_move (v := (.int .i64 (m : Int))) e5_0 ?_)
  refine s_op (o_lss (a := (k : Int)) (b := (m : Int)) rfl rfl ?_)
  refine s_nil ?_
  refine t_norm (hK12 _ _ ?_)
  refine c_cond rfl (fun h13 => ?_) (fun h13 => ?_)
  · -- (k : Int) < (m : Int)
    refine wp_skip ?_
    refine t_norm (hK11 _ _ ?_)
    refine wp_seq_k fun K14 hK14 => ?_
    refine wp_block ?_
    refine c_region ?_
    refine s_op (o_move (v := vb) e5_6 ?_)
    refine s_op (o_buildSlice (ps := #[(0, (.int .u8 0))]) (cells := #[(.int .u8 0)]) Tryd.underlying55 ti5 (by decide) (parts1 rfl) (by kernel_rfl) hH9 fun b15 w16 hH17 => ?_)
    refine s_op (o_append Tryd.underlying55 ti5 rfl (by decide) rfl hob rfl (sl_lit (f := bV) (l := [(0 : UInt8)]) rfl rfl (by simp)) (hH17.front 1 rfl) (seg_sub 0 rfl) (one_bV _) (by simp; omega) (by simp; omega) fun v18 s19 w21 ho20 hH22 => ?_)
    have ho20 : Own 5 1 v18 (lb ++ [(0 : UInt8)]).length ((lb ++ [(0 : UInt8)]).map bV) s19 := ho20.app
    refine s_op (o_assign (v := v18) rfl ?_)
    refine s_nil ?_
    refine b_norm ?_
    refine t_norm (hK14 _ _ ?_)
    refine c_region ?_
    refine s_op (o_move (v := (.int .i64 (k : Int))) e5_7 ?_)
    refine s_op (o_add (a := (k : Int)) (b := 1) rfl rfl (w64 (by omega) (by omega)) ?_)
    refine s_op (o_assign (v := (.int .i64 ((k : Int) + 1))) rfl ?_)
    refine s_nil ?_
    have hH23 : Has E w21 [s19, R] := ((hH22.front 2 rfl).front 1 rfl).first 2 rfl
    refine t_norm ⟨m - (k + 1), _, rfl, ?_, ?_⟩
    · omega
    · exact ⟨(k + 1), v18, s19, (lb ++ [(0 : UInt8)]), rfl, hH23, (by omega), (ho20), (by rw [hlb, List.replicate_succ']), (by simp; omega), e5_0, e5_1, e5_4, e5_5, rfl, rfl⟩
  · -- not: (k : Int) < (m : Int)
    refine wp_exit ?_
    refine t_exit (t_exit (x_in (?_)))
    refine t_norm (hK3 _ _ ?_)
    refine wp_seq_k fun K24 hK24 => ?_
    refine wp_seq_k fun K25 hK25 => ?_
    refine c_region ?_
    refine s_op (o_move (v := (.int .i64 (m : Int))) e5_0 ?_)
    refine s_op (o_sub (a := (m : Int)) (b := 1) rfl rfl (w64 (by omega) (by omega)) ?_)
    refine s_op (o_assign (v := (.int .i64 ((m : Int) - 1))) rfl ?_)
    refine s_nil ?_
    refine t_norm (hK25 _ _ ?_)
    refine wp_block ?_
    let I27 : Nat → (Nat → Value) → World → Prop := fun n__ r__ w__ => ∃ (j : Nat) (i : Int) (y : Int) (hs2 : List Hp) (lc : List UInt8), n__ = j + 1 ∧ Has E w__ [hs2, R] ∧ (j ≤ m) ∧ (i = (j : Int) - 1) ∧ (Own 5 1 vb lc.length (lc.map bV) hs2) ∧ (lc = List.replicate j 0 ++ beFrom n (m - j)) ∧ (0 ≤ n → y = n / ((256 ^ (m - j) : Nat) : Int)) ∧ (n < 0 → j = m ∧ y = n) ∧ (lc.length = m) ∧ (-9223372036854775808 ≤ y ∧ y ≤ 9223372036854775807) ∧ r__ 0 = (.int .i64 (m : Int)) ∧ r__ 1 = (.int .i64 y) ∧ r__ 4 = (S ([] : List UInt8)) ∧ r__ 5 = (.bool false) ∧ r__ 6 = vb ∧ r__ 7 = (.int .i64 (k : Int)) ∧ r__ 8 = (.int .i64 i) ∧ r__ 11 = (.bool (decide ((k : Int) < (m : Int))))
    refine c_loop I27 _ ⟨m, ((m : Int) - 1), n, hs, lb, rfl, hH9, Nat.le_refl _, rfl, hob, (by rw [hlb, show k = m from by omega, Nat.sub_self]; simp [beFrom]), (by intro _; rw [Nat.sub_self]; simp), fun _ => ⟨rfl, rfl⟩, (by omega), hn, e5_0, e5_1, e5_4, e5_5, e5_6, e5_7, rfl, rfl⟩ ?_
    rintro n_ r30 w28 ⟨j, i, y, hs2, lc, rfl, hH29, hj, hi, hoc, hlc, hy, hneg, hlen, hyr, e26_0, e26_1, e26_4, e26_5, e26_6, e26_7, e26_8, e26_11⟩
    refine wp_seq_k fun K31 hK31 => ?_
    refine wp_seq_k fun K32 hK32 => ?_
    refine c_region ?_
    refine s_op (o_move (v := (.int .i64 i)) e26_8 ?_)
    refine s_op (o_geq (a := i) (b := 0) rfl rfl ?_)
    refine s_op (o_move (v := (.bool (decide (0 ≤ i)))) rfl ?_)
    by_cases h33 : 0 ≤ i
    · -- 0 ≤ i
      refine s_on 21 rfl (congrArg Value.bool (decide_eq_true h33)) (o_move (v := (.int .i64 y)) e26_1 ?_)
      refine s_on 21 rfl (congrArg Value.bool (decide_eq_true h33)) (o_gtr (a := y) (b := 0) rfl rfl ?_)
      refine s_op (o_pick_t (u := (.bool (decide (0 < y)))) ((rfl : _ = _).trans (congrArg Value.bool (decide_eq_true h33))) rfl ?_)
      refine s_nil ?_
      refine t_norm (hK32 _ _ ?_)
      refine c_cond rfl (fun h34 => ?_) (fun h34 => ?_)
      · -- 0 < y
        refine wp_skip ?_
        refine t_norm (hK31 _ _ ?_)
        refine wp_seq_k fun K35 hK35 => ?_
        refine wp_block ?_
        refine wp_seq_k fun K36 hK36 => ?_
        refine c_region ?_
        refine s_op (o_move (v := vb) e26_6 ?_)
        refine s_op (o_move (v := (.int .i64 i)) e26_8 ?_)
        refine s_op (o_move (v := (.int .i64 y)) e26_1 ?_)
        refine s_op (o_rem (a := y) (b := 256) (c := y % 256) rfl rfl (by omega) ((Int.tmod_eq_emod_of_nonneg (by first | exact Int.natCast_nonneg _ | omega))) ?_)
        refine s_op (o_conv (c := ((by8 (y % 256)).toNat : Int)) Tryd.underlying3 Tryd.underlying5 rfl (wrap_by8 _) ?_)
        refine s_op (o_ownAddr Tryd.underlying55 ti5 rfl hoc rfl (by omega) (by first | omega | (simp only [List.length_append, List.length_cons, List.length_nil, List.length_set]; omega)) fun b37 ho38 => ?_)
        refine s_eff (o_ownStore (f := bV) (l := lc) (a := (by8 (y % 256))) ti5 rfl rfl rfl ho38 (by first | omega | (simp only [List.length_append, List.length_cons, List.length_nil, List.length_set]; omega)) hH29 fun s39 w40 ho41 hH42 => ?_)
        refine s_nil ?_
        refine t_norm (hK36 _ _ ?_)
        refine c_region ?_
        refine s_op (o_move (v := (.int .i64 y)) e26_1 ?_)
        refine s_op (o_quo (a := y) (b := 256) (c := y / 256) rfl rfl (by omega) (by rw [(Int.tdiv_eq_ediv_of_nonneg (by first | exact Int.natCast_nonneg _ | omega))]; exact w64 (by omega) (by omega)) ?_)
        refine s_op (o_assign (v := (.int .i64 (y / 256))) rfl ?_)
        refine s_nil ?_
        refine b_norm ?_
        refine t_norm (hK35 _ _ ?_)
        refine c_region ?_
        refine s_op (o_move (v := (.int .i64 i)) e26_8 ?_)
        refine s_op (o_sub (a := i) (b := 1) rfl rfl (w64 (by omega) (by omega)) ?_)
        refine s_op (o_assign (v := (.int .i64 (i - 1))) rfl ?_)
        refine s_nil ?_
        refine t_norm ⟨(j - 1) + 1, _, rfl, ?_, ?_⟩
        · omega
        · exact ⟨(j - 1), (i - 1), (y / 256), s39, (lc.set ((i).toNat) (by8 (y % 256))), rfl, hH42, (by omega), (by omega), (ho41), (refput_set hlc (by omega) (by omega) hi hy (by omega)), (refput_div hy (by omega) (by omega)), (by omega), (by simp; omega), (by omega), e26_0, rfl, e26_4, e26_5, e26_6, e26_7, rfl, e26_11⟩
      · -- not: 0 < y
        refine wp_exit ?_
        refine t_exit (t_exit (x_in (?_)))
        refine t_norm (hK24 _ _ ?_)
        refine wp_seq_k fun K43 hK43 => ?_
        refine c_region ?_
        refine s_op (o_move (v := vb) e26_6 ?_)
        refine s_op (o_bstr Tryd.underlying55 Tryd.underlying5 Tryd.underlying9 rfl hoc.sl hH29 (seg_sub 0 rfl) ?_)
        refine s_op (o_move (v := (.int .i64 y)) e26_1 ?_)
        refine s_op (o_eql (a := y) (b := 0) rfl rfl ?_)
        refine s_op (o_assign (v := (S lc)) rfl ?_)
        refine s_op (o_assign (v := (.bool (decide (y = 0)))) rfl ?_)
        refine s_nil ?_
        refine t_norm (hK43 _ _ ?_)
        refine wp_ret ?_
        refine c_ret2 Tryd.results84  (v := (S lc)) rfl (x := (.bool (decide (y = 0)))) rfl ?_
        have hH44 : Has E w28 [R] := (hH29.front 1 rfl).first 1 rfl
        exact ⟨lc, by rw [show decide (y = 0) = fitsS n m from refput_ok hm hn hj hy hneg (by omega)], hlen, refput_be hm hn hj hlc hy hneg (by omega), hH44⟩
    · -- not: 0 ≤ i
      refine s_off (b' := false) 21 rfl (congrArg Value.bool (decide_eq_false h33)) rfl ?_
      refine s_off (b' := false) 21 rfl (congrArg Value.bool (decide_eq_false h33)) rfl ?_
      refine s_op (o_pick_f (u := (.bool false)) ((rfl : _ = _).trans (congrArg Value.bool (decide_eq_false h33))) rfl ?_)
      refine s_nil ?_
      refine t_norm (hK32 _ _ ?_)
      refine c_false rfl rfl ?_
      refine wp_exit ?_
      refine t_exit (t_exit (x_in (?_)))
      refine t_norm (hK24 _ _ ?_)
      refine wp_seq_k fun K45 hK45 => ?_
      refine c_region ?_
      refine s_op (o_move (v := vb) e26_6 ?_)
      refine s_op (o_bstr Tryd.underlying55 Tryd.underlying5 Tryd.underlying9 rfl hoc.sl hH29 (seg_sub 0 rfl) ?_)
      refine s_op (o_move (v := (.int .i64 y)) e26_1 ?_)
      refine s_op (o_eql (a := y) (b := 0) rfl rfl ?_)
      refine s_op (o_assign (v := (S lc)) rfl ?_)
      refine s_op (o_assign (v := (.bool (decide (y = 0)))) rfl ?_)
      refine s_nil ?_
      refine t_norm (hK45 _ _ ?_)
      refine wp_ret ?_
      refine c_ret2 Tryd.results84  (v := (S lc)) rfl (x := (.bool (decide (y = 0)))) rfl ?_
      have hH46 : Has E w28 [R] := (hH29.front 1 rfl).first 1 rfl
      exact ⟨lc, by rw [show decide (y = 0) = fitsS n m from refput_ok hm hn hj hy hneg (by omega)], hlen, refput_be hm hn hj hlc hy hneg (by omega), hH46⟩
set_option maxHeartbeats 4000000 in
theorem refTake_c {E w : World} {R : List Hp} (hH : Has E w [R]) (m : Nat) (s : List UInt8) (hsl : s.length ≤ 9223372036854775807) :
    Calls Tryd.prog 51 #[(S s), (.int .i64 (m : Int))] w fun e w' => e = .returned (.tuple #[.int .i64 (takeS s m).1, .bool (takeS s m).2.2]) ∧ Has E w' [R] := by
  refine c_enter (args := [(S s), (.int .i64 (m : Int))]) Tryd.func51 rfl Tryd.ntmps51 (by simp) ?_
  refine wp_seq_k fun K1 hK1 => ?_
  refine c_region ?_
  refine s_op (o_assign (v := (.int .i64 0)) rfl ?_)
  refine s_op (o_assign (v := (.bool false)) rfl ?_)
  refine s_nil ?_
  refine t_norm (hK1 _ _ ?_)
  refine wp_seq_k fun K2 hK2 => ?_
  refine wp_seq_k fun K3 hK3 => ?_
  refine c_region ?_
  refine s_op (o_move (v := (.int .i64 (m : Int))) rfl ?_)
  refine s_op (o_lss (a := (m : Int)) (b := 1) rfl rfl ?_)
  refine s_op (o_move (v := (.bool (decide ((m : Int) < 1)))) rfl ?_)
  by_cases h4 : (m : Int) < 1
  · -- (m : Int) < 1
    refine s_off (b' := true) 10 rfl (congrArg Value.bool (decide_eq_true h4)) rfl ?_
    refine s_off (b' := true) 10 rfl (congrArg Value.bool (decide_eq_true h4)) rfl ?_
    refine s_op (o_pick_t (u := (.bool true)) ((rfl : _ = _).trans (congrArg Value.bool (decide_eq_true h4))) rfl ?_)
    refine s_op (o_move (v := (.bool true)) rfl ?_)
    refine s_off (b' := true) 14 rfl rfl rfl ?_
    refine s_off (b' := true) 14 rfl rfl rfl ?_
    refine s_off (b' := true) 14 rfl rfl rfl ?_
    refine s_off (b' := true) 14 rfl rfl rfl ?_
    refine s_op (o_pick_t (u := (.bool true)) rfl rfl ?_)
    refine s_op (o_move (v := (.bool true)) rfl ?_)
    refine s_off (b' := true) 20 rfl rfl rfl ?_
    refine s_off (b' := true) 20 rfl rfl rfl ?_
    refine s_off (b' := true) 20 rfl rfl rfl ?_
    refine s_offu 23 rfl rfl ?_
    refine s_offu 23 rfl rfl ?_
    refine s_offu 23 rfl rfl ?_
    refine s_off (b' := true) 20 rfl rfl rfl ?_
    refine s_op (o_pick_t (u := (.bool true)) rfl rfl ?_)
    refine s_nil ?_
    refine t_norm (hK3 _ _ ?_)
    refine c_true rfl rfl ?_
    refine wp_seq_k fun K5 hK5 => ?_
    refine c_region ?_
    refine s_op (o_assign (v := (.int .i64 0)) rfl ?_)
    refine s_op (o_assign (v := (.bool false)) rfl ?_)
    refine s_nil ?_
    refine t_norm (hK5 _ _ ?_)
    refine wp_ret ?_
    refine t_ret (c_ret2 Tryd.results51  (v := (.int .i64 0)) rfl (x := (.bool false)) rfl ?_)
    exact ⟨by rw [takeS_no (by first | exact .inl (by omega) | exact .inr (.inl (by omega)) | exact .inr (.inr ⟨by omega, 0, by simpa using rfl, by omega⟩))], hH⟩
  · -- not: (m : Int) < 1
    refine s_on 10 rfl (congrArg Value.bool (decide_eq_false h4)) (o_move (v := (.int .i64 (m : Int))) rfl ?_)
    refine s_on 10 rfl (congrArg Value.bool (decide_eq_false h4)) (o_gtr (a := (m : Int)) (b := 8) rfl rfl ?_)
    refine s_op (o_pick_f (u := (.bool (decide (8 < (m : Int))))) ((rfl : _ = _).trans (congrArg Value.bool (decide_eq_false h4))) rfl ?_)
    refine s_op (o_move (v := (.bool (decide (8 < (m : Int))))) rfl ?_)
    by_cases h6 : 8 < (m : Int)
    · -- 8 < (m : Int)
      refine s_off (b' := true) 14 rfl (congrArg Value.bool (decide_eq_true h6)) rfl ?_
      refine s_off (b' := true) 14 rfl (congrArg Value.bool (decide_eq_true h6)) rfl ?_
      refine s_off (b' := true) 14 rfl (congrArg Value.bool (decide_eq_true h6)) rfl ?_
      refine s_off (b' := true) 14 rfl (congrArg Value.bool (decide_eq_true h6)) rfl ?_
      refine s_op (o_pick_t (u := (.bool true)) ((rfl : _ = _).trans (congrArg Value.bool (decide_eq_true h6))) rfl ?_)
      refine s_op (o_move (v := (.bool true)) rfl ?_)
      refine s_off (b' := true) 20 rfl rfl rfl ?_
      refine s_off (b' := true) 20 rfl rfl rfl ?_
      refine s_off (b' := true) 20 rfl rfl rfl ?_
      refine s_offu 23 rfl rfl ?_
      refine s_offu 23 rfl rfl ?_
      refine s_offu 23 rfl rfl ?_
      refine s_off (b' := true) 20 rfl rfl rfl ?_
      refine s_op (o_pick_t (u := (.bool true)) rfl rfl ?_)
      refine s_nil ?_
      refine t_norm (hK3 _ _ ?_)
      refine c_true rfl rfl ?_
      refine wp_seq_k fun K7 hK7 => ?_
      refine c_region ?_
      refine s_op (o_assign (v := (.int .i64 0)) rfl ?_)
      refine s_op (o_assign (v := (.bool false)) rfl ?_)
      refine s_nil ?_
      refine t_norm (hK7 _ _ ?_)
      refine wp_ret ?_
      refine t_ret (c_ret2 Tryd.results51  (v := (.int .i64 0)) rfl (x := (.bool false)) rfl ?_)
      exact ⟨by rw [takeS_no (by first | exact .inl (by omega) | exact .inr (.inl (by omega)) | exact .inr (.inr ⟨by omega, 0, by simpa using rfl, by omega⟩))], hH⟩
    · -- not: 8 < (m : Int)
      refine s_on 14 rfl (congrArg Value.bool (decide_eq_false h6)) (o_move (v := (S s)) rfl ?_)
      refine s_on 14 rfl (congrArg Value.bool (decide_eq_false h6)) (o_slen Tryd.underlying9 rfl ?_)
      refine s_on 14 rfl (congrArg Value.bool (decide_eq_false h6)) (o_move (v := (.int .i64 (m : Int))) rfl ?_)
      refine s_on 14 rfl (congrArg Value.bool (decide_eq_false h6)) (o_lss (a := (s.length : Int)) (b := (m : Int)) rfl rfl ?_)
      refine s_op (o_pick_f (u := (.bool (decide ((s.length : Int) < (m : Int))))) ((rfl : _ = _).trans (congrArg Value.bool (decide_eq_false h6))) rfl ?_)
      refine s_op (o_move (v := (.bool (decide ((s.length : Int) < (m : Int))))) rfl ?_)
      by_cases h8 : (s.length : Int) < (m : Int)
      · -- (s.length : Int) < (m : Int)
        refine s_off (b' := true) 20 rfl (congrArg Value.bool (decide_eq_true h8)) rfl ?_
        refine s_off (b' := true) 20 rfl (congrArg Value.bool (decide_eq_true h8)) rfl ?_
        refine s_off (b' := true) 20 rfl (congrArg Value.bool (decide_eq_true h8)) rfl ?_
        refine s_offu 23 rfl rfl ?_
        refine s_offu 23 rfl rfl ?_
        refine s_offu 23 rfl rfl ?_
        refine s_off (b' := true) 20 rfl (congrArg Value.bool (decide_eq_true h8)) rfl ?_
        refine s_op (o_pick_t (u := (.bool true)) ((rfl : _ = _).trans (congrArg Value.bool (decide_eq_true h8))) rfl ?_)
        refine s_nil ?_
        refine t_norm (hK3 _ _ ?_)
        refine c_true rfl rfl ?_
        refine wp_seq_k fun K9 hK9 => ?_
        refine c_region ?_
        refine s_op (o_assign (v := (.int .i64 0)) rfl ?_)
        refine s_op (o_assign (v := (.bool false)) rfl ?_)
        refine s_nil ?_
        refine t_norm (hK9 _ _ ?_)
        refine wp_ret ?_
        refine t_ret (c_ret2 Tryd.results51  (v := (.int .i64 0)) rfl (x := (.bool false)) rfl ?_)
        exact ⟨by rw [takeS_no (by first | exact .inl (by omega) | exact .inr (.inl (by omega)) | exact .inr (.inr ⟨by omega, 0, by simpa using rfl, by omega⟩))], hH⟩
      · -- not: (s.length : Int) < (m : Int)
        refine s_on 20 rfl (congrArg Value.bool (decide_eq_false h8)) (o_move (v := (.int .i64 (m : Int))) rfl ?_)
        refine s_on 20 rfl (congrArg Value.bool (decide_eq_false h8)) (o_eql (a := (m : Int)) (b := 8) rfl rfl ?_)
        refine s_on 20 rfl (congrArg Value.bool (decide_eq_false h8)) (o_move (v := (.bool (decide ((m : Int) = 8)))) rfl ?_)
        by_cases h10 : (m : Int) = 8
        · -- (m : Int) = 8
          refine s_on 23 rfl (congrArg Value.bool (decide_eq_true h10)) (o_move (v := (S s)) rfl ?_)
          obtain ⟨c11, hx12⟩ : ∃ x_, s[((0 : Int)).toNat]? = some x_ := get_some (by omega)
          have c11_lt := c11.toNat_lt
          refine s_on 23 rfl (congrArg Value.bool (decide_eq_true h10)) (o_sidx Tryd.underlying9 rfl rfl (by omega) hx12 ?_)
          refine s_on 23 rfl (congrArg Value.bool (decide_eq_true h10)) (o_geq (a := (c11.toNat : Int)) (b := 128) rfl rfl ?_)
          refine s_on 20 rfl (congrArg Value.bool (decide_eq_false h8)) (o_pick_t (u := (.bool (decide (128 ≤ (c11.toNat : Int))))) ((rfl : _ = _).trans (congrArg Value.bool (decide_eq_true h10))) rfl ?_)
          refine s_op (o_pick_f (u := (.bool (decide (128 ≤ (c11.toNat : Int))))) ((rfl : _ = _).trans (congrArg Value.bool (decide_eq_false h8))) rfl ?_)
          refine s_nil ?_
          refine t_norm (hK3 _ _ ?_)
          refine c_cond rfl (fun h13 => ?_) (fun h13 => ?_)
          · -- 128 ≤ (c11.toNat : Int)
            refine wp_seq_k fun K14 hK14 => ?_
            refine c_region ?_
            refine s_op (o_assign (v := (.int .i64 0)) rfl ?_)
            refine s_op (o_assign (v := (.bool false)) rfl ?_)
            refine s_nil ?_
            refine t_norm (hK14 _ _ ?_)
            refine wp_ret ?_
            refine t_ret (c_ret2 Tryd.results51  (v := (.int .i64 0)) rfl (x := (.bool false)) rfl ?_)
            exact ⟨by rw [takeS_no (by first | exact .inl (by omega) | exact .inr (.inl (by omega)) | exact .inr (.inr ⟨by omega, c11, by simpa using hx12, by omega⟩))], hH⟩
          · -- not: 128 ≤ (c11.toNat : Int)
            refine wp_skip ?_
            refine t_norm (hK2 _ _ ?_)
            refine wp_seq_k fun K15 hK15 => ?_
            refine c_region ?_
            refine s_op (o_assign (v := (.int .i64 0)) rfl ?_)
            refine s_nil ?_
            refine t_norm (hK15 _ _ ?_)
            refine wp_seq_k fun K16 hK16 => ?_
            refine wp_seq_k fun K17 hK17 => ?_
            refine c_region ?_
            refine s_op (o_assign (v := (.int .i64 0)) rfl ?_)
            refine s_nil ?_
            refine t_norm (hK17 _ _ ?_)
            refine wp_block ?_
            let I19 : Nat → (Nat → Value) → World → Prop := fun n__ r__ w__ => ∃ (i : Nat) (y : Int), n__ = m - i ∧ Has E w__ [R] ∧ (i ≤ m) ∧ (y = beVal (s.take i)) ∧ r__ 0 = (S s) ∧ r__ 1 = (.int .i64 (m : Int)) ∧ r__ 4 = (.int .i64 0) ∧ r__ 5 = (.bool false) ∧ r__ 6 = (.int .i64 y) ∧ r__ 7 = (.int .i64 (i : Int)) ∧ r__ 28 = (.bool (decide (128 ≤ (c11.toNat : Int))))
            refine c_loop I19 _ ⟨0, 0, rfl, hH, Nat.zero_le _, rfl, rfl, rfl, rfl, rfl, rfl, rfl, rfl⟩ ?_
            rintro n_ r22 w20 ⟨i, y, rfl, hH21, hi, hy, e18_0, e18_1, e18_4, e18_5, e18_6, e18_7, e18_28⟩
            have hb0 := beVal_nonneg (s.take i)
            have hb1 : i < m → beVal (s.take i) < 36028797018963968 := fun h => beVal_lt h (by omega) (by omega) (.inr (first_byte (by simpa using hx12) (by omega)))
            refine wp_seq_k fun K23 hK23 => ?_
            refine wp_seq_k fun K24 hK24 => ?_
            refine c_region ?_
            refine s_op (o_move (v := (.int .i64 (i : Int))) e18_7 ?_)
            refine s_op (o_move (v := (.int .i64 (m : Int))) e18_1 ?_)
            refine s_op (o_lss (a := (i : Int)) (b := (m : Int)) rfl rfl ?_)
            refine s_nil ?_
            refine t_norm (hK24 _ _ ?_)
            refine c_cond rfl (fun h25 => ?_) (fun h25 => ?_)
            · -- (i : Int) < (m : Int)
              refine wp_skip ?_
              refine t_norm (hK23 _ _ ?_)
              refine wp_seq_k fun K26 hK26 => ?_
              refine wp_block ?_
              refine c_region ?_
              refine s_op (o_move (v := (.int .i64 y)) e18_6 ?_)
              refine s_op (o_mul (a := 256) (b := y) rfl rfl (w64 (by omega) (by omega)) ?_)
              refine s_op (o_move (v := (S s)) e18_0 ?_)
              refine s_op (o_move (v := (.int .i64 (i : Int))) e18_7 ?_)
              obtain ⟨c27, hx28⟩ : ∃ x_, s[((i : Int)).toNat]? = some x_ := get_some (by omega)
              have c27_lt := c27.toNat_lt
              refine s_op (o_sidx Tryd.underlying9 rfl rfl (by omega) hx28 ?_)
              refine s_op (o_conv Tryd.underlying5 Tryd.underlying3 rfl (w_u8 _) ?_)
              refine s_op (o_add (a := 256 * y) (b := (c27.toNat : Int)) rfl rfl (w64 (by omega) (by omega)) ?_)
              refine s_op (o_assign (v := (.int .i64 ((256 * y) + (c27.toNat : Int)))) rfl ?_)
              refine s_nil ?_
              refine b_norm ?_
              refine t_norm (hK26 _ _ ?_)
              refine c_region ?_
              refine s_op (o_move (v := (.int .i64 (i : Int))) e18_7 ?_)
              refine s_op (o_add (a := (i : Int)) (b := 1) rfl rfl (w64 (by omega) (by omega)) ?_)
              refine s_op (o_assign (v := (.int .i64 ((i : Int) + 1))) rfl ?_)
              refine s_nil ?_
              refine t_norm ⟨m - (i + 1), _, rfl, ?_, ?_⟩
              · omega
              · exact ⟨(i + 1), ((256 * y) + (c27.toNat : Int)), rfl, hH21, (by omega), (by rw [take_succ_of (by simpa using hx28), beVal_snoc, ← hy]; omega), e18_0, e18_1, e18_4, e18_5, rfl, rfl, e18_28⟩
            · -- not: (i : Int) < (m : Int)
              refine wp_exit ?_
              refine t_exit (t_exit (x_in (?_)))
              refine t_norm (hK16 _ _ ?_)
              refine wp_seq_k fun K29 hK29 => ?_
              refine c_region ?_
              refine s_op (o_move (v := (.int .i64 y)) e18_6 ?_)
              refine s_op (o_assign (v := (.int .i64 y)) rfl ?_)
              refine s_op (o_assign (v := (.bool true)) rfl ?_)
              refine s_nil ?_
              refine t_norm (hK29 _ _ ?_)
              refine wp_ret ?_
              refine c_ret2 Tryd.results51  (v := (.int .i64 y)) rfl (x := (.bool true)) rfl ?_
              have e : i = m := by omega
              rw [e] at hy
              exact ⟨by rw [takeS_yes (by omega) (by omega) (by omega) (.inr (first_byte (by simpa using hx12) (by omega))), hy], hH21⟩
        · -- not: (m : Int) = 8
          refine s_off (b' := false) 23 rfl (congrArg Value.bool (decide_eq_false h10)) rfl ?_
          refine s_off (b' := false) 23 rfl (congrArg Value.bool (decide_eq_false h10)) rfl ?_
          refine s_off (b' := false) 23 rfl (congrArg Value.bool (decide_eq_false h10)) rfl ?_
          refine s_on 20 rfl (congrArg Value.bool (decide_eq_false h8)) (o_pick_f (u := (.bool false)) ((rfl : _ = _).trans (congrArg Value.bool (decide_eq_false h10))) rfl ?_)
          refine s_op (o_pick_f (u := (.bool false)) ((rfl : _ = _).trans (congrArg Value.bool (decide_eq_false h8))) rfl ?_)
          refine s_nil ?_
          refine t_norm (hK3 _ _ ?_)
          refine c_false rfl rfl ?_
          refine wp_skip ?_
          refine t_norm (hK2 _ _ ?_)
          refine wp_seq_k fun K30 hK30 => ?_
          refine c_region ?_
          refine s_op (o_assign (v := (.int .i64 0)) rfl ?_)
          refine s_nil ?_
          refine t_norm (hK30 _ _ ?_)
          refine wp_seq_k fun K31 hK31 => ?_
          refine wp_seq_k fun K32 hK32 => ?_
          refine c_region ?_
          refine s_op (o_assign (v := (.int .i64 0)) rfl ?_)
          refine s_nil ?_
          refine t_norm (hK32 _ _ ?_)
          refine wp_block ?_
          let I34 : Nat → (Nat → Value) → World → Prop := fun n__ r__ w__ => ∃ (i : Nat) (y : Int), n__ = m - i ∧ Has E w__ [R] ∧ (i ≤ m) ∧ (y = beVal (s.take i)) ∧ r__ 0 = (S s) ∧ r__ 1 = (.int .i64 (m : Int)) ∧ r__ 4 = (.int .i64 0) ∧ r__ 5 = (.bool false) ∧ r__ 6 = (.int .i64 y) ∧ r__ 7 = (.int .i64 (i : Int)) ∧ r__ 28 = (.bool false)
          refine c_loop I34 _ ⟨0, 0, rfl, hH, Nat.zero_le _, rfl, rfl, rfl, rfl, rfl, rfl, rfl, rfl⟩ ?_
          rintro n_ r37 w35 ⟨i, y, rfl, hH36, hi, hy, e33_0, e33_1, e33_4, e33_5, e33_6, e33_7, e33_28⟩
          have hb0 := beVal_nonneg (s.take i)
          have hb1 : i < m → beVal (s.take i) < 36028797018963968 := fun h => beVal_lt h (by omega) (by omega) (.inl (by omega))
          refine wp_seq_k fun K38 hK38 => ?_
          refine wp_seq_k fun K39 hK39 => ?_
          refine c_region ?_
          refine s_op (o_move (v := (.int .i64 (i : Int))) e33_7 ?_)
          refine s_op (o_move (v := (.int .i64 (m : Int))) e33_1 ?_)
          refine s_op (o_lss (a := (i : Int)) (b := (m : Int)) rfl rfl ?_)
          refine s_nil ?_
          refine t_norm (hK39 _ _ ?_)
          refine c_cond rfl (fun h40 => ?_) (fun h40 => ?_)
          · -- (i : Int) < (m : Int)
            refine wp_skip ?_
            refine t_norm (hK38 _ _ ?_)
            refine wp_seq_k fun K41 hK41 => ?_
            refine wp_block ?_
            refine c_region ?_
            refine s_op (o_move (v := (.int .i64 y)) e33_6 ?_)
            refine s_op (o_mul (a := 256) (b := y) rfl rfl (w64 (by omega) (by omega)) ?_)
            refine s_op (o_move (v := (S s)) e33_0 ?_)
            refine s_op (o_move (v := (.int .i64 (i : Int))) e33_7 ?_)
            obtain ⟨c42, hx43⟩ : ∃ x_, s[((i : Int)).toNat]? = some x_ := get_some (by omega)
            have c42_lt := c42.toNat_lt
            refine s_op (o_sidx Tryd.underlying9 rfl rfl (by omega) hx43 ?_)
            refine s_op (o_conv Tryd.underlying5 Tryd.underlying3 rfl (w_u8 _) ?_)
            refine s_op (o_add (a := 256 * y) (b := (c42.toNat : Int)) rfl rfl (w64 (by omega) (by omega)) ?_)
            refine s_op (o_assign (v := (.int .i64 ((256 * y) + (c42.toNat : Int)))) rfl ?_)
            refine s_nil ?_
            refine b_norm ?_
            refine t_norm (hK41 _ _ ?_)
            refine c_region ?_
            refine s_op (o_move (v := (.int .i64 (i : Int))) e33_7 ?_)
            refine s_op (o_add (a := (i : Int)) (b := 1) rfl rfl (w64 (by omega) (by omega)) ?_)
            refine s_op (o_assign (v := (.int .i64 ((i : Int) + 1))) rfl ?_)
            refine s_nil ?_
            refine t_norm ⟨m - (i + 1), _, rfl, ?_, ?_⟩
            · omega
            · exact ⟨(i + 1), ((256 * y) + (c42.toNat : Int)), rfl, hH36, (by omega), (by rw [take_succ_of (by simpa using hx43), beVal_snoc, ← hy]; omega), e33_0, e33_1, e33_4, e33_5, rfl, rfl, e33_28⟩
          · -- not: (i : Int) < (m : Int)
            refine wp_exit ?_
            refine t_exit (t_exit (x_in (?_)))
            refine t_norm (hK31 _ _ ?_)
            refine wp_seq_k fun K44 hK44 => ?_
            refine c_region ?_
            refine s_op (o_move (v := (.int .i64 y)) e33_6 ?_)
            refine s_op (o_assign (v := (.int .i64 y)) rfl ?_)
            refine s_op (o_assign (v := (.bool true)) rfl ?_)
            refine s_nil ?_
            refine t_norm (hK44 _ _ ?_)
            refine wp_ret ?_
            refine c_ret2 Tryd.results51  (v := (.int .i64 y)) rfl (x := (.bool true)) rfl ?_
            have e : i = m := by omega
            rw [e] at hy
            exact ⟨by rw [takeS_yes (by omega) (by omega) (by omega) (.inl (by omega)), hy], hH36⟩
set_option maxHeartbeats 4000000 in
theorem rlaid_c {E w : World} {R : List Hp} (hH : Has E w [R]) (m : Nat) (hm : 1 ≤ m ∧ m ≤ 8) (n : Int) (hn : -9223372036854775808 ≤ n ∧ n ≤ 9223372036854775807) (hf : fitsS n m = true) :
    Calls Tryd.prog 47 #[(.int .i64 (m : Int)), (.int .i64 n)] w fun e w' => e = .returned (S (beFrom n m)) ∧ Has E w' [R] := by
  refine c_enter (args := [(.int .i64 (m : Int)), (.int .i64 n)]) Tryd.func47 rfl Tryd.ntmps47 (by simp) ?_
  refine wp_seq_k fun K1 hK1 => ?_
  refine c_region ?_
  refine s_op (o_assign (v := (S ([] : List UInt8))) rfl ?_)
  refine s_nil ?_
  refine t_norm (hK1 _ _ ?_)
  refine wp_seq_k fun K2 hK2 => ?_
  refine c_region ?_
  refine s_op (o_move (v := (.int .i64 (m : Int))) rfl ?_)
  refine s_op (o_move (v := (.int .i64 n)) rfl ?_)
  refine s_op (o_callf (vs := #[(.int .i64 (m : Int)), (.int .i64 n)]) ca84 rfl (args2 rfl rfl) (refPut_c hH.all m hm n hn) ?_)
  rintro _ w7 ⟨t3, rfl, _, ht4, hX5⟩
  refine ⟨_, rfl, ?_⟩
  have hH6 : Has E w7 [R] := hX5.of_all
  refine s_op (o_move (v := (.tuple #[(S t3), (.bool (fitsS n m))])) rfl ?_)
  refine s_op (o_extract (v := (S t3)) rfl rfl ?_)
  refine s_op (o_extract (v := (.bool (fitsS n m))) rfl rfl ?_)
  refine s_op (o_assign (v := (S t3)) rfl ?_)
  refine s_op (o_assign (v := (.bool (fitsS n m))) rfl ?_)
  refine s_nil ?_
  refine t_norm (hK2 _ _ ?_)
  refine wp_seq_k fun K8 hK8 => ?_
  refine c_region ?_
  refine s_op (o_move (v := (S t3)) rfl ?_)
  refine s_op (o_assign (v := (S t3)) rfl ?_)
  refine s_nil ?_
  refine t_norm (hK8 _ _ ?_)
  refine wp_ret ?_
  refine c_ret1 Tryd.results47  (v := (S t3)) rfl ?_
  exact ⟨by rw [ht4 hf], hH6⟩
end Go.Q
namespace Go.Q
/-- one bit falls out -/
def cb (r : BitVec 32) : BitVec 32 := if r.getLsbD 0 then (r >>> 1) ^^^ 0xedb88320#32 else r >>> 1
def cbs : Nat → BitVec 32 → BitVec 32
  | 0, r => r
  | n + 1, r => cbs n (cb r)
def b32 (b : UInt8) : BitVec 32 := BitVec.ofNat 32 b.toNat
/-- one byte -/
def cby (r : BitVec 32) (b : UInt8) : BitVec 32 := cbs 8 (r ^^^ b32 b)
def crcF (r : BitVec 32) (l : List UInt8) : BitVec 32 := l.foldl cby r
def crcS (l : List UInt8) : BitVec 32 := ~~~ (crcF (0xffffffff#32) l)
theorem cb_xor (a b : BitVec 32) : cb (a ^^^ b) = cb a ^^^ cb b := by
  unfold cb
  rw [BitVec.getLsbD_xor, BitVec.ushiftRight_xor_distrib]
  generalize a >>> 1 = x
  generalize b >>> 1 = y
  generalize (0xedb88320#32 : BitVec 32) = c
  have e1 : x ^^^ (y ^^^ c) = x ^^^ y ^^^ c := (BitVec.xor_assoc x y c).symm
  have e2 : x ^^^ c ^^^ y = x ^^^ y ^^^ c := by rw [BitVec.xor_assoc, BitVec.xor_comm c y, e1]
  have e3 : x ^^^ c ^^^ (y ^^^ c) = x ^^^ y := by rw [← BitVec.xor_assoc, e2, BitVec.xor_assoc, BitVec.xor_self, BitVec.xor_zero]
  cases a.getLsbD 0 <;> cases b.getLsbD 0 <;> simp [e1, e2, e3]
theorem cb_zero : cb 0#32 = 0#32 := by decide
theorem cb_even {a : BitVec 32} (h : a.getLsbD 0 = false) : cb a = a >>> 1 := by unfold cb; rw [h]; rfl
theorem cb_inj0 {a : BitVec 32} (h : cb a = 0#32) : a = 0#32 := by
  unfold cb at h
  split at h
  · have := congrArg (fun x : BitVec 32 => x.getLsbD 31) h
    simp at this
  · rename_i h0
    apply BitVec.eq_of_getLsbD_eq
    intro i hi
    cases i with
    | zero => simpa using h0
    | succ i =>
      have := congrArg (fun x : BitVec 32 => x.getLsbD i) h
      simp at this
      rw [Nat.add_comm] at this
      simpa using this
theorem cbs_xor : ∀ (n : Nat) (a b : BitVec 32), cbs n (a ^^^ b) = cbs n a ^^^ cbs n b
  | 0, _, _ => rfl
  | n + 1, a, b => by rw [cbs, cb_xor, cbs_xor n]; rfl
theorem cbs_inj0 : ∀ (n : Nat) {a : BitVec 32}, cbs n a = 0#32 → a = 0#32
  | 0, _, h => h
  | n + 1, _, h => cb_inj0 (cbs_inj0 n h)
theorem cbs_zero : ∀ n, cbs n 0#32 = 0#32
  | 0 => rfl
  | n + 1 => by rw [cbs, cb_zero, cbs_zero n]
theorem cbs_add (a b : Nat) : ∀ r, cbs (a + b) r = cbs b (cbs a r) := by
  induction a with
  | zero => intro r; rw [Nat.zero_add]; rfl
  | succ a ih => intro r; rw [Nat.succ_add]; exact ih _
/-- bits above n: they only fall down -/
theorem cbs_high : ∀ (n : Nat) (a : BitVec 32), (∀ i, i < n → a.getLsbD i = false) → cbs n a = a >>> n
  | 0, a, _ => by simp [cbs]
  | n + 1, a, h => by
    rw [cbs, cb_even (h 0 (by omega)), cbs_high n _ (fun i hi => by
      rw [BitVec.getLsbD_ushiftRight, Nat.add_comm]; exact h (i + 1) (by omega))]
    rw [← BitVec.shiftRight_add, Nat.add_comm]
def nib (i : Nat) : BitVec 32 := cbs 4 (BitVec.ofNat 32 i)
theorem split4 (r : BitVec 32) : r = (r &&& ~~~ 15#32) ^^^ (r &&& 15#32) := by
  apply BitVec.eq_of_getLsbD_eq
  intro i hi
  simp only [BitVec.getLsbD_xor, BitVec.getLsbD_and, BitVec.getLsbD_not]
  cases r.getLsbD i <;> simp [hi]
theorem cbs4 (r : BitVec 32) : cbs 4 r = (r >>> 4) ^^^ nib (r &&& 15#32).toNat := by
  have hl : ∀ i, i < 4 → (r &&& ~~~ 15#32).getLsbD i = false := fun i hi => by
    have : (~~~ 15#32).getLsbD i = false := by
      rcases i with _ | _ | _ | _ | i <;> first | decide | omega
    rw [BitVec.getLsbD_and, this, Bool.and_false]
  have e1 : (r &&& ~~~ 15#32) >>> 4 = r >>> 4 := by
    apply BitVec.eq_of_getLsbD_eq
    intro i hi
    rw [BitVec.getLsbD_ushiftRight, BitVec.getLsbD_ushiftRight, BitVec.getLsbD_and]
    by_cases hb : 4 + i < 32
    · have : ∀ j, j < 28 → (~~~ 15#32).getLsbD (4 + j) = true := by decide
      rw [this i (by omega), Bool.and_true]
    · rw [BitVec.getLsbD_of_ge r _ (by omega)]; rfl
  conv => lhs; rw [split4 r]
  rw [cbs_xor, cbs_high 4 _ hl, e1]
  unfold nib
  rw [BitVec.ofNat_toNat, BitVec.setWidth_eq]
/-- a byte, bit by bit: what is left of it is laid over the state -/
theorem step_bit (r x : BitVec 32) : cb (r ^^^ (x &&& 1#32)) ^^^ (x >>> 1) = cb (r ^^^ x) := by
  have e : x = (x &&& 1#32) ^^^ (x &&& ~~~ 1#32) := by
    apply BitVec.eq_of_getLsbD_eq
    intro i hi
    simp only [BitVec.getLsbD_xor, BitVec.getLsbD_and, BitVec.getLsbD_not]
    cases x.getLsbD i <;> simp [hi]
  have h0 : (x &&& ~~~ 1#32).getLsbD 0 = false := by
    rw [BitVec.getLsbD_and]; simp
  have h1 : (x &&& ~~~ 1#32) >>> 1 = x >>> 1 := by
    apply BitVec.eq_of_getLsbD_eq
    intro i hi
    rw [BitVec.getLsbD_ushiftRight, BitVec.getLsbD_ushiftRight, BitVec.getLsbD_and]
    by_cases hb : 1 + i < 32
    · have : ∀ j, j < 31 → (~~~ 1#32).getLsbD (1 + j) = true := by decide
      rw [this i (by omega), Bool.and_true]
    · rw [BitVec.getLsbD_of_ge x _ (by omega)]; rfl
  conv => rhs; rw [e, ← BitVec.xor_assoc, cb_xor, cb_even h0, h1]
theorem crcF_append (r : BitVec 32) (a b : List UInt8) : crcF r (a ++ b) = crcF (crcF r a) b := List.foldl_append
end Go.Q
namespace Go.Q
def uV (x : BitVec 32) : Value := .int .u32 (x.toNat : Int)
theorem ofInt_toNat (x : BitVec 32) : BitVec.ofInt 32 (x.toNat : Int) = x := by
  rw [BitVec.ofInt_natCast, BitVec.ofNat_toNat, BitVec.setWidth_eq]
theorem wrap_u32 {n : Int} (h0 : 0 ≤ n) (h1 : n < 4294967296) : IntKind.wrap .u32 n = n := by
  simp only [IntKind.wrap, IntKind.bits, IntKind.signed]
  simp
  exact Int.emod_eq_of_lt h0 (by simpa using h1)
theorem u32_lt (x : BitVec 32) : (x.toNat : Int) < 4294967296 := by have := x.isLt; omega
theorem xor32 (x y : BitVec 32) : IntKind.wrap .u32 ((BitVec.ofInt 32 (x.toNat : Int) ^^^ BitVec.ofInt 32 (y.toNat : Int)).toNat : Int) = ((x ^^^ y).toNat : Int) := by
  rw [ofInt_toNat, ofInt_toNat, wrap_u32 (by omega) (u32_lt _)]
theorem and32 (x y : BitVec 32) : IntKind.wrap .u32 ((BitVec.ofInt 32 (x.toNat : Int) &&& BitVec.ofInt 32 (y.toNat : Int)).toNat : Int) = ((x &&& y).toNat : Int) := by
  rw [ofInt_toNat, ofInt_toNat, wrap_u32 (by omega) (u32_lt _)]
theorem shr32 (x : BitVec 32) (n : Nat) (h : n ≤ 32) : Int.fdiv (x.toNat : Int) (2 ^ (min ((n : Int)).toNat (IntKind.bits .u32))) = ((x >>> n).toNat : Int) := by
  rw [show min ((n : Int)).toNat (IntKind.bits .u32) = n from by simp [IntKind.bits]; omega, BitVec.toNat_ushiftRight, Nat.shiftRight_eq_div_pow,
    show ((2 : Int) ^ n) = ((2 ^ n : Nat) : Int) from by rw [Int.natCast_pow]; rfl, Int.fdiv_eq_ediv_of_nonneg _ (Int.natCast_nonneg _)]
  exact (Int.natCast_ediv _ _).symm
theorem shr8 (c : UInt8) (n : Nat) (h : n ≤ 8) : Int.fdiv (c.toNat : Int) (2 ^ (min ((n : Int)).toNat (IntKind.bits .u8))) = ((c.toNat >>> n : Nat) : Int) := by
  rw [show min ((n : Int)).toNat (IntKind.bits .u8) = n from by simp [IntKind.bits]; omega, Nat.shiftRight_eq_div_pow,
    show ((2 : Int) ^ n) = ((2 ^ n : Nat) : Int) from by rw [Int.natCast_pow]; rfl, Int.fdiv_eq_ediv_of_nonneg _ (Int.natCast_nonneg _)]
  exact (Int.natCast_ediv _ _).symm
theorem quo32 (x : BitVec 32) (m k : Nat) (hm : m = 2 ^ k) : IntKind.wrap .u32 ((x.toNat : Int).tdiv (m : Int)) = ((x >>> k).toNat : Int) := by
  subst hm
  rw [Int.tdiv_eq_ediv_of_nonneg (by omega), BitVec.toNat_ushiftRight, Nat.shiftRight_eq_div_pow, ← Int.natCast_ediv]
  exact wrap_u32 (Int.natCast_nonneg _) (Int.ofNat_lt.2 (Nat.lt_of_le_of_lt (Nat.div_le_self x.toNat (2 ^ k)) x.isLt))
theorem not32 (x : BitVec 32) : 4294967295 - (x.toNat : Int) = ((~~~ x).toNat : Int) := by
  rw [BitVec.toNat_not]; have := x.isLt; omega
theorem sub32 (x : BitVec 32) : IntKind.wrap .u32 (4294967295 - (x.toNat : Int)) = ((~~~ x).toNat : Int) := by
  rw [not32]; exact wrap_u32 (by omega) (u32_lt _)
theorem b32_nat (b : UInt8) : (b.toNat : Int) = ((b32 b).toNat : Int) := by
  unfold b32
  rw [BitVec.toNat_ofNat, Nat.mod_eq_of_lt (by have := b.toNat_lt; omega)]
theorem conv_b32 (b : UInt8) : IntKind.wrap .u32 (b.toNat : Int) = ((b32 b).toNat : Int) := by
  rw [b32_nat]; exact wrap_u32 (by omega) (u32_lt _)
/-- the low byte -/
def lo8 (x : BitVec 32) : UInt8 := UInt8.ofNat x.toNat
theorem conv_lo8 (x : BitVec 32) : IntKind.wrap .u8 (x.toNat : Int) = ((lo8 x).toNat : Int) := by
  simp only [IntKind.wrap, IntKind.bits, IntKind.signed]
  simp [lo8]
theorem and15_lt (x : BitVec 32) : (x &&& 15#32).toNat < 16 := by
  rw [BitVec.toNat_and]; exact Nat.lt_of_le_of_lt Nat.and_le_right (by decide)
/-- the table -/
def nibV : List Value := [.int .u32 0, .int .u32 498536548, .int .u32 997073096, .int .u32 651767980, .int .u32 1994146192, .int .u32 1802195444, .int .u32 1303535960, .int .u32 1342533948, .int .u32 3988292384, .int .u32 4027552580, .int .u32 3604390888, .int .u32 3412177804, .int .u32 2607071920, .int .u32 2262029012, .int .u32 2685067896, .int .u32 3183342108]
def nibL : List Int := [0, 498536548, 997073096, 651767980, 1994146192, 1802195444, 1303535960, 1342533948, 3988292384, 4027552580, 3604390888, 3412177804, 2607071920, 2262029012, 2685067896, 3183342108]
theorem nibV_L {i : Nat} {v : Value} (h : nibV[i]? = some v) : ∃ z, nibL[i]? = some z ∧ v = .int .u32 z := by
  have e : nibV = nibL.map (fun z => Value.int .u32 z) := rfl
  rw [e, List.getElem?_map, Option.map_eq_some_iff] at h
  obtain ⟨z, h1, h2⟩ := h
  exact ⟨z, h1, h2.symm⟩
theorem nibV_at : ∀ i, i < 16 → nibV[i]? = some (uV (nib i)) := by
  have : ∀ i, i < 16 → (nib i).toNat = [0, 498536548, 997073096, 651767980, 1994146192, 1802195444, 1303535960, 1342533948, 3988292384, 4027552580, 3604390888, 3412177804, 2607071920, 2262029012, 2685067896, 3183342108].getD i 0 := by decide
  intro i hi
  unfold uV
  rw [this i hi]
  rcases i with _ | _ | _ | _ | _ | _ | _ | _ | _ | _ | _ | _ | _ | _ | _ | _ | i <;> first | rfl | omega
theorem nib_at {L : List Hp} {g : Nat} (h : CellsAt L g 0 nibV) (x : BitVec 32) : CellsAt L g (0 + (x &&& 15#32).toNat) [uV (nib (x &&& 15#32).toNat)] :=
  h.sub fun j v hv => by
    cases j with
    | zero => rw [Nat.add_zero, nibV_at _ (and15_lt x)]; simpa using hv
    | succ j => simp at hv
theorem cby_nib (r : BitVec 32) (c : UInt8) : cby r c = (((r ^^^ b32 c) >>> 4 ^^^ nib ((r ^^^ b32 c) &&& 15#32).toNat) >>> 4) ^^^ nib (((r ^^^ b32 c) >>> 4 ^^^ nib ((r ^^^ b32 c) &&& 15#32).toNat) &&& 15#32).toNat := by
  rw [← cbs4, ← cbs4, ← cbs_add]; rfl
theorem cbs_succ' (n : Nat) (r : BitVec 32) : cbs (n + 1) r = cb (cbs n r) := cbs_add n 1 r
theorem bit_and1 (x : BitVec 32) : (x &&& 1#32).toNat = x.toNat % 2 := by
  rw [BitVec.toNat_and]; exact Nat.and_one_is_mod _
theorem bit0 (x : BitVec 32) : x.getLsbD 0 = decide (x.toNat % 2 = 1) := by
  rw [BitVec.getLsbD, Nat.testBit_zero]
theorem bit0_out (r x : BitVec 32) : (r ^^^ (x &&& 1#32)).getLsbD 0 = decide (r.toNat % 2 ≠ x.toNat % 2) := by
  rw [BitVec.getLsbD_xor, bit0, bit0, bit_and1]
  have h1 : r.toNat % 2 = 0 ∨ r.toNat % 2 = 1 := by omega
  have h2 : x.toNat % 2 = 0 ∨ x.toNat % 2 = 1 := by omega
  rcases h1 with h1 | h1 <;> rcases h2 with h2 | h2 <;> simp [h1, h2]
theorem shr_and1 (r x : BitVec 32) : (r ^^^ (x &&& 1#32)) >>> 1 = r >>> 1 := by
  rw [BitVec.ushiftRight_xor_distrib]
  have : (x &&& 1#32) >>> 1 = 0#32 := by
    apply BitVec.eq_of_toNat_eq
    rw [BitVec.toNat_ushiftRight, bit_and1, Nat.shiftRight_eq_div_pow]
    show x.toNat % 2 / 2 ^ 1 = 0
    omega
  rw [this, BitVec.xor_zero]
theorem b32_shr (c : UInt8) (j : Nat) : (b32 c >>> j).toNat = c.toNat >>> j := by
  rw [BitVec.toNat_ushiftRight]; congr 1; have := b32_nat c; omega
theorem bits_yes {r r0 : BitVec 32} {c : UInt8} {j : Nat} (h : r ^^^ (b32 c >>> j) = cbs j (r0 ^^^ b32 c)) (hb : (r.toNat : Int) % 2 ≠ ((c.toNat >>> j : Nat) : Int) % 2) (_h8 : j < 8) :
    ((r >>> 1) ^^^ 3988292384#32) ^^^ (b32 c >>> (j + 1)) = cbs (j + 1) (r0 ^^^ b32 c) := by
  have e : cb (r ^^^ ((b32 c >>> j) &&& 1#32)) = (r >>> 1) ^^^ 3988292384#32 := by
    unfold cb
    rw [if_pos (by rw [bit0_out, b32_shr]; exact decide_eq_true (by omega)), shr_and1]
  rw [← e, BitVec.shiftRight_add, step_bit, h, cbs_succ']
theorem bits_no {r r0 : BitVec 32} {c : UInt8} {j : Nat} (h : r ^^^ (b32 c >>> j) = cbs j (r0 ^^^ b32 c)) (hb : ¬ (r.toNat : Int) % 2 ≠ ((c.toNat >>> j : Nat) : Int) % 2) (_h8 : j < 8) :
    (r >>> 1) ^^^ (b32 c >>> (j + 1)) = cbs (j + 1) (r0 ^^^ b32 c) := by
  have e : cb (r ^^^ ((b32 c >>> j) &&& 1#32)) = r >>> 1 := by
    unfold cb
    rw [if_neg (by rw [bit0_out, b32_shr]; simp; omega), shr_and1]
  rw [← e, BitVec.shiftRight_add, step_bit, h, cbs_succ']
theorem bits_done {r r0 : BitVec 32} {c : UInt8} {j : Nat} (h : r ^^^ (b32 c >>> j) = cbs j (r0 ^^^ b32 c)) (h8 : j = 8) : r = cby r0 c := by
  subst h8
  have e : b32 c >>> 8 = 0#32 := by
    apply BitVec.eq_of_toNat_eq
    rw [b32_shr, Nat.shiftRight_eq_div_pow]
    have := c.toNat_lt
    show c.toNat / 256 = 0
    omega
  rw [e, BitVec.xor_zero] at h
  exact h
theorem crcF_snoc (r : BitVec 32) (l : List UInt8) (c : UInt8) : crcF r (l ++ [c]) = cby (crcF r l) c := by rw [crcF_append]; rfl
/-- a sum, laid -/
def laidS (x : BitVec 32) : List UInt8 := [lo8 x, lo8 (x >>> 8), lo8 (x >>> 16), lo8 (x >>> 24)]
theorem laidS_len (x : BitVec 32) : (laidS x).length = 4 := rfl
theorem by8_lo (x : BitVec 32) : by8 ((x.toNat : Int) % 256) = lo8 x := by
  unfold by8 lo8
  apply UInt8.toNat_inj.1
  rw [UInt8.toNat_ofNat', UInt8.toNat_ofNat']
  omega
theorem laidS_ref (x : BitVec 32) : [by8 ((x.toNat : Int) % 256), by8 (((x >>> 8).toNat : Int) % 256), by8 (((x >>> 16).toNat : Int) % 256), lo8 (x >>> 24)] = laidS x := by
  rw [by8_lo, by8_lo, by8_lo]; rfl
def sealS (t : List UInt8) : List UInt8 := t ++ laidS (crcS t)
def openS (t : List UInt8) : List UInt8 × Bool :=
  if 4 ≤ t.length ∧ laidS (crcS (t.take ((t.length : Int) - 4).toNat)) = t.drop ((t.length : Int) - 4).toNat then (t.take ((t.length : Int) - 4).toNat, true) else ([], false)
theorem openS_yes {t : List UInt8} (h : 4 ≤ t.length) (h2 : laidS (crcS ([t.take ((t.length : Int) - 4).toNat].flatten)) = t.drop ((t.length : Int) - 4).toNat) : openS t = (t.take ((t.length : Int) - 4).toNat, true) := by
  rw [List.flatten_cons, List.flatten_nil, List.append_nil] at h2
  unfold openS; rw [if_pos ⟨h, h2⟩]
theorem openS_no {t : List UInt8} (h : t.length < 4 ∨ laidS (crcS ([t.take ((t.length : Int) - 4).toNat].flatten)) ≠ t.drop ((t.length : Int) - 4).toNat) : openS t = ([], false) := by
  rw [List.flatten_cons, List.flatten_nil, List.append_nil] at h
  unfold openS; rw [if_neg (fun g => h.elim (fun h => by omega) (fun h => h g.2))]
theorem openS_yes2 {t : List UInt8} (h : 4 ≤ t.length) (h2 : laidS (crcS (t.take ((t.length : Int) - 4).toNat)) = t.drop ((t.length : Int) - 4).toNat) : openS t = (t.take ((t.length : Int) - 4).toNat, true) := openS_yes h (by simpa using h2)
theorem openS_no2 {t : List UInt8} (h : t.length < 4 ∨ laidS (crcS (t.take ((t.length : Int) - 4).toNat)) ≠ t.drop ((t.length : Int) - 4).toNat) : openS t = ([], false) := openS_no (by simpa using h)
theorem all_no {l : List (List UInt8)} {x : List UInt8} (hx : x ∈ l) (h : (openS x).2 = false) : l.all (fun x => (openS x).2) = false := by
  rw [List.all_eq_false]; exact ⟨x, hx, by rw [h]; decide⟩
theorem flat_le {l : List (List UInt8)} {x : List UInt8} (hx : x ∈ l) : x.length ≤ l.flatten.length := by
  induction l with
  | nil => cases hx
  | cons a t ih =>
    rw [List.flatten_cons, List.length_append]
    rcases List.mem_cons.1 hx with e | h
    · rw [e]; omega
    · have := ih h; omega
theorem lawjoin_end {l : List (List UInt8)} {t : List UInt8} {k : Nat} (ht : t = (l.take k).flatten) (he : k = l.length) (hk : k ≤ 20) (h : t.length ≤ 2000) : l.length ≤ 20 ∧ t = l.flatten ∧ l.flatten.length ≤ 2000 := by
  subst he
  rw [List.take_length] at ht
  exact ⟨hk, ht, by rw [← ht]; exact h⟩
theorem emod_b (a b : Int) (h : 0 < b) : 0 ≤ a % b ∧ a % b < b := ⟨Int.emod_nonneg _ (by omega), Int.emod_lt_of_pos _ h⟩
theorem flat1 (t : List UInt8) : [t].flatten = t := by simp
theorem take_drop_part {α : Type} (t : List α) {a b : Nat} (h : a ≤ b) : t.take a ++ (t.take b).drop a = t.take b := by
  have e : t.take a = (t.take b).take a := by rw [List.take_take, Nat.min_eq_left h]
  rw [e, List.take_append_drop]
theorem openS_seal (t : List UInt8) : openS (sealS t) = (t, true) := by
  have hl : (sealS t).length = t.length + 4 := by rw [sealS, List.length_append, laidS_len]
  have e : (((sealS t).length : Int) - 4).toNat = t.length := by omega
  have e1 : (sealS t).take t.length = t := by rw [sealS, List.take_left]
  have e2 : (sealS t).drop t.length = laidS (crcS t) := by rw [sealS, List.drop_left]
  unfold openS
  rw [e, e1, e2, if_pos ⟨by omega, rfl⟩]
theorem seal_good (x : List UInt8) : [sealS x].all (fun x => (openS x).2) = true := by
  simp [openS_seal]
section ops
variable {P : Program} {ρ : Operand → Value} {E w : World} {ss : List (List Hp)} {K : Value → World → Prop} {dst : Option Tmp} {T : TypeId} {pos : String} {after : Array Edge} {g : Option (Nat × Bool)}
theorem o_compl {t u : TypeId} {x : Operand} {a : BitVec 32} (ht : P.underlying t = some (.int .u32)) (hx : ρ x = .int .u32 (a.toNat : Int)) (h : K (.int .u32 ((~~~ a).toNat : Int)) w) : OK P ⟨dst, .unOp .xor t x, u, pos, after, g⟩ ρ w K := by
  refine OK.val (run_v (v := .int .u32 ((~~~ a).toNat : Int)) ?_) h
  rw [hx]
  simp only [Op.unary, Op.intBits]
  rw [if_neg (show ¬ (IntKind.signed .u32 = true) by decide)]
  simp only [Sem.run_pure]
  have e : IntKind.max .u32 = ((4294967295#32).toNat : Int) := by decide
  rw [e]
  have := xor32 (4294967295#32) a
  rw [show (4294967295#32 ^^^ a) = ~~~ a from by
    apply BitVec.eq_of_getLsbD_eq
    intro i hi
    have : ∀ j, j < 32 → (4294967295#32).getLsbD j = true := by decide
    rw [BitVec.getLsbD_xor, this i hi, BitVec.getLsbD_not, decide_eq_true hi]; cases a.getLsbD i <;> rfl] at this
  exact congrArg (fun n => Result.ok (Value.int .u32 n) w) this
theorem o_idxArr {x y : Operand} {t e : TypeId} {n b off i by_ : Nat} {k : IntKind} {z : Value} (ht : P.underlying t = some (.array n e)) (hi : TI P e z 1 by_) (hx : ρ x = .pointer (some ⟨b, off, none⟩)) (hy : ρ y = .int k (i : Int)) (h : i < n)
    (hK : K (.pointer (some ⟨b, off + i, none⟩)) w) : OK P ⟨dst, .indexAddr t x y, T, pos, after, g⟩ ρ w K := by
  refine OK.val (run_v (v := .pointer (some ⟨b, off + i, none⟩)) ?_) hK
  rw [hx, hy]
  simp [Instr.indexAt, asIntOf, run_underlying ht, h, hi.size, add_lit, Instr.sureAddr]
end ops
end Go.Q
namespace Go.Q
open Go.Proofs
set_option linter.unusedVariables false
set_option maxRecDepth 100000
attribute [local irreducible] wpList OK Code.wp
set_option maxHeartbeats 4000000 in
theorem of2_c {E w : World} {R : List Hp} (hH : Has E w [R]) (hg : CellsAt R 0 0 nibV) {v : Value} {l : List (List UInt8)} (hv : Sl R 1 v l.length (l.map sV)) (hlb : ∀ x ∈ l, x.length ≤ 9223372036854775807) :
    Calls Tryd.prog 112 #[v] w fun e w' => e = .returned (.int .u32 ((crcS l.flatten).toNat : Int)) ∧ Has E w' [R] := by
  have hn := hv.le
  refine c_enter (args := [v]) Tryd.func112 rfl Tryd.ntmps112 (by simp) ?_
  refine wp_seq_k fun K1 hK1 => ?_
  refine c_region ?_
  refine s_op (o_assign (v := (.int .u32 0)) rfl ?_)
  refine s_nil ?_
  refine t_norm (hK1 _ _ ?_)
  refine wp_seq_k fun K2 hK2 => ?_
  refine c_region ?_
  refine s_op (o_assign (v := (.int .u32 4294967295)) rfl ?_)
  refine s_nil ?_
  refine t_norm (hK2 _ _ ?_)
  refine wp_seq_k fun K3 hK3 => ?_
  refine wp_seq_k fun K4 hK4 => ?_
  refine c_region ?_
  refine s_op (o_move (v := v) rfl ?_)
  refine s_op (o_lenS Tryd.underlying32 rfl hv ?_)
  refine s_op (o_move (v := (.int .i64 0)) rfl ?_)
  refine s_nil ?_
  refine t_norm (hK4 _ _ ?_)
  refine wp_block ?_
  let I6 : Nat → (Nat → Value) → World → Prop := fun n__ r__ w__ => ∃ (k : Nat) (r : BitVec 32), n__ = l.length - k ∧ Has E w__ [R] ∧ (k ≤ l.length) ∧ (r = crcF (4294967295#32) (l.take k).flatten) ∧ r__ 0 = v ∧ r__ 2 = (.int .u32 0) ∧ r__ 3 = (.int .u32 (r.toNat : Int)) ∧ r__ 7 = v ∧ r__ 8 = (.int .i64 ((l.length : Nat) : Int)) ∧ r__ 9 = (.int .i64 (k : Int))
  refine c_loop I6 _ ⟨0, (4294967295#32), rfl, hH, Nat.zero_le _, rfl, rfl, rfl, rfl, rfl, rfl, rfl⟩ ?_
  rintro n_ r9 w7 ⟨k, r, rfl, hH8, hk, hr, e5_0, e5_2, e5_3, e5_7, e5_8, e5_9⟩
  refine wp_seq_k fun K10 hK10 => ?_
  refine c_region ?_
  refine s_op (o_lss (a := (k : Int)) (b := ((l.length : Nat) : Int)) e5_9 e5_8 ?_)
  refine s_nil ?_
  refine t_norm (hK10 _ _ ?_)
  refine wp_seq_k fun K11 hK11 => ?_
  refine c_cond rfl (fun h12 => ?_) (fun h12 => ?_)
  · -- (k : Int) < ((l.length : Nat) : Int)
    refine wp_skip ?_
    refine t_norm (hK11 _ _ ?_)
    refine wp_seq_k fun K13 hK13 => ?_
    refine wp_block ?_
    refine wp_seq_k fun K14 hK14 => ?_
    refine c_region ?_
    obtain ⟨x18, hx19⟩ : ∃ x_, l[((k : Int)).toNat]? = some x_ := get_some (by omega)
    refine s_op (o_index1 Tryd.underlying32 ti9 e5_7 hv e5_9 (by omega) hx19 fun b15 o16 hc17 => ?_)
    refine s_op (o_load1 (v := (S x18)) Tryd.underlying9 rfl rfl hH8 (seg_sub 0 rfl) hc17 ?_)
    refine s_op (o_assign (v := (S x18)) rfl ?_)
    refine s_nil ?_
    refine t_norm (hK14 _ _ ?_)
    refine wp_seq_k fun K20 hK20 => ?_
    refine c_region ?_
    refine s_op (o_move (v := (S x18)) rfl ?_)
    refine s_op (o_slen Tryd.underlying9 rfl ?_)
    refine s_op (o_move (v := (.int .i64 0)) rfl ?_)
    refine s_nil ?_
    refine t_norm (hK20 _ _ ?_)
    refine wp_block ?_
    have hxl := hlb x18 (List.mem_of_getElem? hx19)
    let I22 : Nat → (Nat → Value) → World → Prop := fun n__ r__ w__ => ∃ (j : Nat) (r2 : BitVec 32), n__ = x18.length - j ∧ Has E w__ [R] ∧ (j ≤ x18.length) ∧ (r2 = crcF r (x18.take j)) ∧ r__ 0 = v ∧ r__ 2 = (.int .u32 0) ∧ r__ 3 = (.int .u32 (r2.toNat : Int)) ∧ r__ 5 = (S x18) ∧ r__ 7 = v ∧ r__ 8 = (.int .i64 ((l.length : Nat) : Int)) ∧ r__ 9 = (.int .i64 (k : Int)) ∧ r__ 10 = (.bool (decide ((k : Int) < ((l.length : Nat) : Int)))) ∧ r__ 14 = (.int .i64 (x18.length : Int)) ∧ r__ 15 = (.int .i64 (j : Int))
    refine c_loop I22 _ ⟨0, r, rfl, hH8, Nat.zero_le _, rfl, e5_0, e5_2, e5_3, rfl, e5_7, e5_8, e5_9, rfl, rfl, rfl⟩ ?_
    rintro n_ r25 w23 ⟨j, r2, rfl, hH24, hj, hr2, e21_0, e21_2, e21_3, e21_5, e21_7, e21_8, e21_9, e21_10, e21_14, e21_15⟩
    refine wp_seq_k fun K26 hK26 => ?_
    refine c_region ?_
    refine s_op (o_lss (a := (j : Int)) (b := (x18.length : Int)) e21_15 e21_14 ?_)
    refine s_nil ?_
    refine t_norm (hK26 _ _ ?_)
    refine wp_seq_k fun K27 hK27 => ?_
    refine c_cond rfl (fun h28 => ?_) (fun h28 => ?_)
    · -- (j : Int) < (x18.length : Int)
      refine wp_skip ?_
      refine t_norm (hK27 _ _ ?_)
      refine wp_seq_k fun K29 hK29 => ?_
      refine wp_block ?_
      refine wp_seq_k fun K30 hK30 => ?_
      refine c_region ?_
      refine s_op (o_move (v := (.int .i64 (j : Int))) e21_15 ?_)
      refine s_op (o_assign (v := (.int .i64 (j : Int))) rfl ?_)
      refine s_nil ?_
      refine t_norm (hK30 _ _ ?_)
      refine wp_seq_k fun K31 hK31 => ?_
      refine c_region ?_
      refine s_op (o_move (v := (.int .u32 (r2.toNat : Int))) e21_3 ?_)
      refine s_op (o_move (v := (S x18)) e21_5 ?_)
      refine s_op (o_move (v := (.int .i64 (j : Int))) rfl ?_)
      obtain ⟨c32, hx33⟩ : ∃ x_, x18[((j : Int)).toNat]? = some x_ := get_some (by omega)
      have c32_lt := c32.toNat_lt
      refine s_op (o_sidx Tryd.underlying9 rfl rfl (by omega) hx33 ?_)
      refine s_op (o_conv (c := ((b32 c32).toNat : Int)) Tryd.underlying5 Tryd.underlying128 rfl (conv_b32 _) ?_)
      refine s_op (o_xor (a := ((r2).toNat : Int)) (b := (((b32 c32)).toNat : Int)) (c := ((r2 ^^^ (b32 c32)).toNat : Int)) rfl rfl (xor32 r2 (b32 c32)) ?_)
      refine s_op (o_assign (v := (.int .u32 ((r2 ^^^ (b32 c32)).toNat : Int))) rfl ?_)
      refine s_nil ?_
      refine t_norm (hK31 _ _ ?_)
      refine wp_seq_k fun K34 hK34 => ?_
      refine c_region ?_
      refine s_op (o_move (v := (.int .u32 ((r2 ^^^ (b32 c32)).toNat : Int))) rfl ?_)
      refine s_op (o_shr (a := (((r2 ^^^ (b32 c32))).toNat : Int)) (b := ((4 : Nat) : Int)) (c := (((r2 ^^^ (b32 c32)) >>> 4).toNat : Int)) rfl rfl (by omega) (shr32 (r2 ^^^ (b32 c32)) 4 (by omega)) ?_)
      refine s_op (o_move (v := (.int .u32 ((r2 ^^^ (b32 c32)).toNat : Int))) rfl ?_)
      refine s_op (o_and (a := (((r2 ^^^ (b32 c32))).toNat : Int)) (b := ((15#32).toNat : Int)) (c := (((r2 ^^^ (b32 c32)) &&& 15#32).toNat : Int)) rfl rfl (and32 (r2 ^^^ (b32 c32)) (15#32)) ?_)
      refine s_op (o_idxArr (i := ((r2 ^^^ (b32 c32)) &&& 15#32).toNat) Tryd.underlying174 ti128 rfl rfl (and15_lt _) ?_)
      refine s_op (o_load1 (v := (.int .u32 ((nib ((r2 ^^^ (b32 c32)) &&& 15#32).toNat).toNat : Int))) Tryd.underlying128 rfl rfl hH24 (seg_sub 0 rfl) (nib_at hg (r2 ^^^ (b32 c32))) ?_)
      refine s_op (o_xor (a := ((((r2 ^^^ (b32 c32)) >>> 4)).toNat : Int)) (b := (((nib ((r2 ^^^ (b32 c32)) &&& 15#32).toNat)).toNat : Int)) (c := ((((r2 ^^^ (b32 c32)) >>> 4) ^^^ (nib ((r2 ^^^ (b32 c32)) &&& 15#32).toNat)).toNat : Int)) rfl rfl (xor32 ((r2 ^^^ (b32 c32)) >>> 4) (nib ((r2 ^^^ (b32 c32)) &&& 15#32).toNat)) ?_)
      refine s_op (o_assign (v := (.int .u32 ((((r2 ^^^ (b32 c32)) >>> 4) ^^^ (nib ((r2 ^^^ (b32 c32)) &&& 15#32).toNat)).toNat : Int))) rfl ?_)
      refine s_nil ?_
      refine t_norm (hK34 _ _ ?_)
      refine c_region ?_
      refine s_op (o_move (v := (.int .u32 ((((r2 ^^^ (b32 c32)) >>> 4) ^^^ (nib ((r2 ^^^ (b32 c32)) &&& 15#32).toNat)).toNat : Int))) rfl ?_)
      refine s_op (o_shr (a := (((((r2 ^^^ (b32 c32)) >>> 4) ^^^ (nib ((r2 ^^^ (b32 c32)) &&& 15#32).toNat))).toNat : Int)) (b := ((4 : Nat) : Int)) (c := (((((r2 ^^^ (b32 c32)) >>> 4) ^^^ (nib ((r2 ^^^ (b32 c32)) &&& 15#32).toNat)) >>> 4).toNat : Int)) rfl rfl (by omega) (shr32 (((r2 ^^^ (b32 c32)) >>> 4) ^^^ (nib ((r2 ^^^ (b32 c32)) &&& 15#32).toNat)) 4 (by omega)) ?_)
      refine s_op (o_move (v := (.int .u32 ((((r2 ^^^ (b32 c32)) >>> 4) ^^^ (nib ((r2 ^^^ (b32 c32)) &&& 15#32).toNat)).toNat : Int))) rfl ?_)
      refine s_op (o_and (a := (((((r2 ^^^ (b32 c32)) >>> 4) ^^^ (nib ((r2 ^^^ (b32 c32)) &&& 15#32).toNat))).toNat : Int)) (b := ((15#32).toNat : Int)) (c := (((((r2 ^^^ (b32 c32)) >>> 4) ^^^ (nib ((r2 ^^^ (b32 c32)) &&& 15#32).toNat)) &&& 15#32).toNat : Int)) rfl rfl (and32 (((r2 ^^^ (b32 c32)) >>> 4) ^^^ (nib ((r2 ^^^ (b32 c32)) &&& 15#32).toNat)) (15#32)) ?_)
      refine s_op (o_idxArr (i := ((((r2 ^^^ (b32 c32)) >>> 4) ^^^ (nib ((r2 ^^^ (b32 c32)) &&& 15#32).toNat)) &&& 15#32).toNat) Tryd.underlying174 ti128 rfl rfl (and15_lt _) ?_)
      refine s_op (o_load1 (v := (.int .u32 ((nib ((((r2 ^^^ (b32 c32)) >>> 4) ^^^ (nib ((r2 ^^^ (b32 c32)) &&& 15#32).toNat)) &&& 15#32).toNat).toNat : Int))) Tryd.underlying128 rfl rfl hH24 (seg_sub 0 rfl) (nib_at hg (((r2 ^^^ (b32 c32)) >>> 4) ^^^ (nib ((r2 ^^^ (b32 c32)) &&& 15#32).toNat))) ?_)
      refine s_op (o_xor (a := ((((((r2 ^^^ (b32 c32)) >>> 4) ^^^ (nib ((r2 ^^^ (b32 c32)) &&& 15#32).toNat)) >>> 4)).toNat : Int)) (b := (((nib ((((r2 ^^^ (b32 c32)) >>> 4) ^^^ (nib ((r2 ^^^ (b32 c32)) &&& 15#32).toNat)) &&& 15#32).toNat)).toNat : Int)) (c := ((((((r2 ^^^ (b32 c32)) >>> 4) ^^^ (nib ((r2 ^^^ (b32 c32)) &&& 15#32).toNat)) >>> 4) ^^^ (nib ((((r2 ^^^ (b32 c32)) >>> 4) ^^^ (nib ((r2 ^^^ (b32 c32)) &&& 15#32).toNat)) &&& 15#32).toNat)).toNat : Int)) rfl rfl (xor32 ((((r2 ^^^ (b32 c32)) >>> 4) ^^^ (nib ((r2 ^^^ (b32 c32)) &&& 15#32).toNat)) >>> 4) (nib ((((r2 ^^^ (b32 c32)) >>> 4) ^^^ (nib ((r2 ^^^ (b32 c32)) &&& 15#32).toNat)) &&& 15#32).toNat)) ?_)
      refine s_op (o_assign (v := (.int .u32 ((((((r2 ^^^ (b32 c32)) >>> 4) ^^^ (nib ((r2 ^^^ (b32 c32)) &&& 15#32).toNat)) >>> 4) ^^^ (nib ((((r2 ^^^ (b32 c32)) >>> 4) ^^^ (nib ((r2 ^^^ (b32 c32)) &&& 15#32).toNat)) &&& 15#32).toNat)).toNat : Int))) rfl ?_)
      refine s_nil ?_
      refine b_norm ?_
      refine t_norm (hK29 _ _ ?_)
      refine c_region ?_
      refine s_op (o_add (a := (j : Int)) (b := 1) e21_15 rfl (w64 (by omega) (by omega)) ?_)
      refine s_op (o_move (v := (.int .i64 ((j : Int) + 1))) rfl ?_)
      refine s_nil ?_
      refine t_norm ⟨x18.length - (j + 1), _, rfl, ?_, ?_⟩
      · omega
      · exact ⟨(j + 1), (((((r2 ^^^ (b32 c32)) >>> 4) ^^^ (nib ((r2 ^^^ (b32 c32)) &&& 15#32).toNat)) >>> 4) ^^^ (nib ((((r2 ^^^ (b32 c32)) >>> 4) ^^^ (nib ((r2 ^^^ (b32 c32)) &&& 15#32).toNat)) &&& 15#32).toNat)), rfl, hH24, (by omega), (by rw [take_succ_of (show x18[j]? = some _ from hx33), crcF_snoc, ← hr2, cby_nib]), e21_0, e21_2, rfl, e21_5, e21_7, e21_8, e21_9, e21_10, e21_14, rfl⟩
    · -- not: (j : Int) < (x18.length : Int)
      refine wp_exit ?_
      refine t_exit (t_exit (x_in (?_)))
      refine b_norm ?_
      refine t_norm (hK13 _ _ ?_)
      refine c_region ?_
      refine s_op (o_add (a := (k : Int)) (b := 1) e21_9 rfl (w64 (by omega) (by omega)) ?_)
      refine s_op (o_move (v := (.int .i64 ((k : Int) + 1))) rfl ?_)
      refine s_nil ?_
      refine t_norm ⟨l.length - (k + 1), _, rfl, ?_, ?_⟩
      · omega
      · exact ⟨(k + 1), r2, rfl, hH24, (by omega), (by rw [take_succ_of (show l[k]? = some _ from hx19), List.flatten_append, crcF_append, ← hr, hr2, show j = x18.length from by omega, List.take_length]; simp), e21_0, e21_2, e21_3, e21_7, e21_8, rfl⟩
  · -- not: (k : Int) < ((l.length : Nat) : Int)
    refine wp_exit ?_
    refine t_exit (t_exit (x_in (?_)))
    refine t_norm (hK3 _ _ ?_)
    refine wp_seq_k fun K35 hK35 => ?_
    refine c_region ?_
    refine s_op (o_move (v := (.int .u32 (r.toNat : Int))) e5_3 ?_)
    refine s_op (o_compl (a := r) Tryd.underlying128 rfl ?_)
    refine s_op (o_assign (v := (.int .u32 ((~~~ r).toNat : Int))) rfl ?_)
    refine s_nil ?_
    refine t_norm (hK35 _ _ ?_)
    refine wp_ret ?_
    refine c_ret1 Tryd.results112  (v := (.int .u32 ((~~~ r).toNat : Int))) rfl ?_
    have e : k = l.length := by omega
    rw [e, List.take_length] at hr
    subst hr
    exact ⟨rfl, hH8⟩
set_option maxHeartbeats 4000000 in
theorem refsum_c {E w : World} {R : List Hp} (hH : Has E w [R]) (t : List UInt8) (hl : t.length ≤ 9223372036854775807) :
    Calls Tryd.prog 85 #[(S t)] w fun e w' => e = .returned (.int .u32 ((crcS t).toNat : Int)) ∧ Has E w' [R] := by
  refine c_enter (args := [(S t)]) Tryd.func85 rfl Tryd.ntmps85 (by simp) ?_
  refine wp_seq_k fun K1 hK1 => ?_
  refine c_region ?_
  refine s_op (o_assign (v := (.int .u32 0)) rfl ?_)
  refine s_nil ?_
  refine t_norm (hK1 _ _ ?_)
  refine wp_seq_k fun K2 hK2 => ?_
  refine c_region ?_
  refine s_op (o_assign (v := (.int .u32 4294967295)) rfl ?_)
  refine s_nil ?_
  refine t_norm (hK2 _ _ ?_)
  refine wp_seq_k fun K3 hK3 => ?_
  refine wp_seq_k fun K4 hK4 => ?_
  refine c_region ?_
  refine s_op (o_assign (v := (.int .i64 0)) rfl ?_)
  refine s_nil ?_
  refine t_norm (hK4 _ _ ?_)
  refine wp_block ?_
  let I6 : Nat → (Nat → Value) → World → Prop := fun n__ r__ w__ => ∃ (k : Nat) (r : BitVec 32), n__ = t.length - k ∧ Has E w__ [R] ∧ (k ≤ t.length) ∧ (r = crcF (4294967295#32) (t.take k)) ∧ r__ 0 = (S t) ∧ r__ 2 = (.int .u32 0) ∧ r__ 3 = (.int .u32 (r.toNat : Int)) ∧ r__ 4 = (.int .i64 (k : Int))
  refine c_loop I6 _ ⟨0, (4294967295#32), rfl, hH, Nat.zero_le _, rfl, rfl, rfl, rfl, rfl⟩ ?_
  rintro n_ r9 w7 ⟨k, r, rfl, hH8, hk, hr, e5_0, e5_2, e5_3, e5_4⟩
  refine wp_seq_k fun K10 hK10 => ?_
  refine wp_seq_k fun K11 hK11 => ?_
  refine c_region ?_
  refine s_op (o_move (v := (.int .i64 (k : Int))) e5_4 ?_)
  refine s_op (o_move (v := (S t)) e5_0 ?_)
  refine s_op (o_slen Tryd.underlying9 rfl ?_)
  refine s_op (o_lss (a := (k : Int)) (b := (t.length : Int)) rfl rfl ?_)
  refine s_nil ?_
  refine t_norm (hK11 _ _ ?_)
  refine c_cond rfl (fun h12 => ?_) (fun h12 => ?_)
  · -- (k : Int) < (t.length : Int)
    refine wp_skip ?_
    refine t_norm (hK10 _ _ ?_)
    refine wp_seq_k fun K13 hK13 => ?_
    refine wp_block ?_
    refine wp_seq_k fun K14 hK14 => ?_
    refine c_region ?_
    refine s_op (o_assign (v := (.int .i64 0)) rfl ?_)
    refine s_nil ?_
    refine t_norm (hK14 _ _ ?_)
    refine wp_block ?_
    obtain ⟨ch, hch⟩ : ∃ x_, t[((k : Int)).toNat]? = some x_ := get_some (by omega)
    have hch_lt := ch.toNat_lt
    let I16 : Nat → (Nat → Value) → World → Prop := fun n__ r__ w__ => ∃ (j : Nat) (r2 : BitVec 32), n__ = 8 - j ∧ Has E w__ [R] ∧ (j ≤ 8) ∧ (r2 ^^^ (b32 ch >>> j) = cbs j (r ^^^ b32 ch)) ∧ r__ 0 = (S t) ∧ r__ 2 = (.int .u32 0) ∧ r__ 3 = (.int .u32 (r2.toNat : Int)) ∧ r__ 4 = (.int .i64 (k : Int)) ∧ r__ 5 = (.int .i64 (j : Int)) ∧ r__ 10 = (.bool (decide ((k : Int) < (t.length : Int))))
    refine c_loop I16 _ ⟨0, r, rfl, hH8, (by omega), (by simp [cbs]), e5_0, e5_2, e5_3, e5_4, rfl, rfl⟩ ?_
    rintro n_ r19 w17 ⟨j, r2, rfl, hH18, hj, hr2, e15_0, e15_2, e15_3, e15_4, e15_5, e15_10⟩
    refine wp_seq_k fun K20 hK20 => ?_
    refine wp_seq_k fun K21 hK21 => ?_
    refine c_region ?_
    refine s_op (o_move (v := (.int .i64 (j : Int))) e15_5 ?_)
    refine s_op (o_lss (a := (j : Int)) (b := 8) rfl rfl ?_)
    refine s_nil ?_
    refine t_norm (hK21 _ _ ?_)
    refine c_cond rfl (fun h22 => ?_) (fun h22 => ?_)
    · -- (j : Int) < 8
      refine wp_skip ?_
      refine t_norm (hK20 _ _ ?_)
      refine wp_seq_k fun K23 hK23 => ?_
      refine wp_block ?_
      refine wp_seq_k fun K24 hK24 => ?_
      refine c_region ?_
      refine s_op (o_move (v := (.int .u32 (r2.toNat : Int))) e15_3 ?_)
      refine s_op (o_rem (a := (r2.toNat : Int)) (b := 2) (c := (r2.toNat : Int) % 2) rfl rfl (by omega) ((Int.tmod_eq_emod_of_nonneg (by first | exact Int.natCast_nonneg _ | omega))) ?_)
      refine s_op (o_move (v := (S t)) e15_0 ?_)
      refine s_op (o_move (v := (.int .i64 (k : Int))) e15_4 ?_)
      refine s_op (o_sidx Tryd.underlying9 rfl rfl (by omega) hch ?_)
      refine s_op (o_move (v := (.int .i64 (j : Int))) e15_5 ?_)
      refine s_op (o_shr (a := (ch.toNat : Int)) (b := ((j : Nat) : Int)) (c := ((ch.toNat >>> j : Nat) : Int)) rfl rfl (by omega) (shr8 ch j (by omega)) ?_)
      refine s_op (o_rem (a := ((ch.toNat >>> j : Nat) : Int)) (b := 2) (c := ((ch.toNat >>> j : Nat) : Int) % 2) rfl rfl (by omega) ((Int.tmod_eq_emod_of_nonneg (by first | exact Int.natCast_nonneg _ | omega))) ?_)
      refine s_op (o_conv (c := (((ch.toNat >>> j : Nat) : Int) % 2)) Tryd.underlying5 Tryd.underlying128 rfl (wrap_u32 (by omega) (by omega)) ?_)
      refine s_op (o_neq (a := (r2.toNat : Int) % 2) (b := ((ch.toNat >>> j : Nat) : Int) % 2) rfl rfl ?_)
      refine s_op (o_assign (v := (.bool (decide ((r2.toNat : Int) % 2 ≠ ((ch.toNat >>> j : Nat) : Int) % 2)))) rfl ?_)
      refine s_nil ?_
      refine t_norm (hK24 _ _ ?_)
      refine wp_seq_k fun K25 hK25 => ?_
      refine c_region ?_
      refine s_op (o_move (v := (.int .u32 (r2.toNat : Int))) e15_3 ?_)
      refine s_op (o_quo (a := ((r2).toNat : Int)) (b := ((2 : Nat) : Int)) (c := ((r2 >>> 1).toNat : Int)) rfl rfl (by decide) (quo32 r2 2 1 (by decide)) ?_)
      refine s_op (o_assign (v := (.int .u32 ((r2 >>> 1).toNat : Int))) rfl ?_)
      refine s_nil ?_
      refine t_norm (hK25 _ _ ?_)
      refine wp_seq_k fun K26 hK26 => ?_
      refine c_region ?_
      refine s_op (o_move (v := (.bool (decide ((r2.toNat : Int) % 2 ≠ ((ch.toNat >>> j : Nat) : Int) % 2)))) rfl ?_)
      refine s_nil ?_
      refine t_norm (hK26 _ _ ?_)
      refine c_cond rfl (fun h27 => ?_) (fun h27 => ?_)
      · -- (r2.toNat : Int) % 2 ≠ ((ch.toNat >>> j : Nat) : Int) % 2
        refine c_region ?_
        refine s_op (o_move (v := (.int .u32 ((r2 >>> 1).toNat : Int))) rfl ?_)
        refine s_op (o_xor (a := (((r2 >>> 1)).toNat : Int)) (b := ((3988292384#32).toNat : Int)) (c := (((r2 >>> 1) ^^^ 3988292384#32).toNat : Int)) rfl rfl (xor32 (r2 >>> 1) (3988292384#32)) ?_)
        refine s_op (o_assign (v := (.int .u32 (((r2 >>> 1) ^^^ 3988292384#32).toNat : Int))) rfl ?_)
        refine s_nil ?_
        refine b_norm ?_
        refine t_norm (hK23 _ _ ?_)
        refine c_region ?_
        refine s_op (o_move (v := (.int .i64 (j : Int))) e15_5 ?_)
        refine s_op (o_add (a := (j : Int)) (b := 1) rfl rfl (w64 (by omega) (by omega)) ?_)
        refine s_op (o_assign (v := (.int .i64 ((j : Int) + 1))) rfl ?_)
        refine s_nil ?_
        refine t_norm ⟨8 - (j + 1), _, rfl, ?_, ?_⟩
        · omega
        · exact ⟨(j + 1), ((r2 >>> 1) ^^^ 3988292384#32), rfl, hH18, (by omega), (bits_yes hr2 (by assumption) (by omega)), e15_0, e15_2, rfl, e15_4, rfl, e15_10⟩
      · -- not: (r2.toNat : Int) % 2 ≠ ((ch.toNat >>> j : Nat) : Int) % 2
        refine wp_skip ?_
        refine b_norm ?_
        refine t_norm (hK23 _ _ ?_)
        refine c_region ?_
        refine s_op (o_move (v := (.int .i64 (j : Int))) e15_5 ?_)
        refine s_op (o_add (a := (j : Int)) (b := 1) rfl rfl (w64 (by omega) (by omega)) ?_)
        refine s_op (o_assign (v := (.int .i64 ((j : Int) + 1))) rfl ?_)
        refine s_nil ?_
        refine t_norm ⟨8 - (j + 1), _, rfl, ?_, ?_⟩
        · omega
        · exact ⟨(j + 1), (r2 >>> 1), rfl, hH18, (by omega), (bits_no hr2 (by assumption) (by omega)), e15_0, e15_2, rfl, e15_4, rfl, e15_10⟩
    · -- not: (j : Int) < 8
      refine wp_exit ?_
      refine t_exit (t_exit (x_in (?_)))
      refine b_norm ?_
      refine t_norm (hK13 _ _ ?_)
      refine c_region ?_
      refine s_op (o_move (v := (.int .i64 (k : Int))) e15_4 ?_)
      refine s_op (o_add (a := (k : Int)) (b := 1) rfl rfl (w64 (by omega) (by omega)) ?_)
      refine s_op (o_assign (v := (.int .i64 ((k : Int) + 1))) rfl ?_)
      refine s_nil ?_
      refine t_norm ⟨t.length - (k + 1), _, rfl, ?_, ?_⟩
      · omega
      · exact ⟨(k + 1), r2, rfl, hH18, (by omega), (by rw [take_succ_of (show t[k]? = some _ from hch), crcF_snoc, ← hr]; exact bits_done hr2 (by omega)), e15_0, e15_2, e15_3, rfl⟩
  · -- not: (k : Int) < (t.length : Int)
    refine wp_exit ?_
    refine t_exit (t_exit (x_in (?_)))
    refine t_norm (hK3 _ _ ?_)
    refine wp_seq_k fun K28 hK28 => ?_
    refine c_region ?_
    refine s_op (o_move (v := (.int .u32 (r.toNat : Int))) e5_3 ?_)
    refine s_op (o_sub (c := ((~~~ r).toNat : Int)) rfl rfl (sub32 r) ?_)
    refine s_op (o_assign (v := (.int .u32 ((~~~ r).toNat : Int))) rfl ?_)
    refine s_nil ?_
    refine t_norm (hK28 _ _ ?_)
    refine wp_ret ?_
    refine c_ret1 Tryd.results85  (v := (.int .u32 ((~~~ r).toNat : Int))) rfl ?_
    have e : k = t.length := by omega
    rw [e, List.take_length] at hr
    subst hr
    exact ⟨rfl, hH8⟩
end Go.Q
namespace Go.Q
theorem Has.below {w w' : World} (H : Has w w' [[Hp.of w]]) : RowKit.Below w.heap.size w w' := by
  have hs : ∀ b o, w.heap[b]? = some o → w'.heap[b]? = some o := Has0.sub H (Hp.of w) (by simp)
  have hb : ∀ k, k < w.heap.size → w'.heap[k]? = w.heap[k]? := fun k hk => by
    rw [hs k w.heap[k] (Array.getElem?_eq_getElem hk), Array.getElem?_eq_getElem hk]
  refine ⟨H.os, H.tape, H.output, ?_, hb⟩
  rcases Nat.eq_zero_or_pos w.heap.size with h | h
  · omega
  · have h1 := hb (w.heap.size - 1) (by omega)
    rw [Array.getElem?_eq_getElem (show w.heap.size - 1 < w.heap.size by omega)] at h1
    have h2 := (Array.getElem?_eq_some_iff.1 h1).1
    omega
/-- cells that are read one by one, as a row -/
theorem cells_row {w : World} {x : Addr} {vs : List Value} (h0 : 0 < vs.length) (h : ∀ i v, vs[i]? = some v → w.cell? (x.add i) = some v) : ∃ b off, x = ⟨b, off, none⟩ ∧ CellsAt [Hp.of w] b off vs := by
  obtain ⟨b, off, spot⟩ := x
  have hc := h 0 vs[0] (List.getElem?_eq_getElem h0)
  simp only [Addr.add, if_true, World.cell?] at hc
  cases hb : w.heap[b]? with
  | none => rw [hb] at hc; cases hc
  | some o =>
    cases o with
    | cells c T f =>
      rw [hb] at hc
      simp only at hc
      cases spot with
      | some s => simp at hc
      | none =>
        refine ⟨b, off, rfl, Hp.of w, List.mem_singleton.2 rfl, c, T, f, hb, fun j v hv => ?_⟩
        have := h j v hv
        rw [add_lit] at this
        simpa [World.cell?, hb] using this
    | _ => rw [hb] at hc; simp at hc
theorem ints_row {w : World} {a : Option Addr} {len cap : Nat} {zs : List Int}
    (h : (a = none ∧ len = 0 ∧ cap = 0 ∧ zs = []) ∨ ∃ x, a = some x ∧ len ≤ cap ∧ cap ≤ maxLen ∧ zs.length = cap ∧ (∀ i, i < zs.length → w.cell? (x.add i) = some (.int .i64 (zs.getD i 0))) ∧ ∀ n ∈ zs, (Lit.int .i64 n).wf = true) :
    ∃ l : List Int, l.length = len ∧ Ints [Hp.of w] (.slice a len cap) l ∧ ∀ n ∈ l, -9223372036854775808 ≤ n ∧ n ≤ 9223372036854775807 := by
  rcases h with ⟨rfl, rfl, rfl, rfl⟩ | ⟨x, rfl, h1, h2, h3, h4, h5⟩
  · exact ⟨[], rfl, sl_nil 1, fun n hn => by cases hn⟩
  · have hl : (zs.take len).length = len := by rw [List.length_take]; omega
    refine ⟨zs.take len, hl, ?_, fun n hn => ?_⟩
    · unfold Ints
      rw [hl]
      refine ⟨some x, cap, rfl, h1, by simpa [maxLen] using h2, by simp; omega, fun h0 => ?_⟩
      obtain ⟨b, off, rfl, hc⟩ := cells_row (w := w) (x := x) (vs := (zs.take len).map iV) (by simp; omega) (fun i v hv => by
        rw [List.getElem?_map, Option.map_eq_some_iff] at hv
        obtain ⟨z, hz, rfl⟩ := hv
        rw [List.getElem?_take] at hz
        split at hz
        · rw [h4 i (by omega), List.getD_eq_getElem?_getD, hz]; rfl
        · cases hz)
      exact ⟨b, off, rfl, hc⟩
    · have := h5 n (List.mem_of_mem_take hn)
      simp only [Lit.wf, IntKind.min, IntKind.max, IntKind.signed, IntKind.bits, Bool.and_eq_true, decide_eq_true_eq, if_true] at this
      omega
end Go.Q
namespace Go.Q
theorem wf_i64 {x : Int} (h : (Lit.int .i64 x).wf = true) : -9223372036854775808 ≤ x ∧ x ≤ 9223372036854775807 := by
  simp only [Lit.wf, IntKind.min, IntKind.max, IntKind.signed, IntKind.bits, Bool.and_eq_true, decide_eq_true_eq, if_true] at h
  omega
theorem wf_u8 {x : Int} (h : (Lit.int .u8 x).wf = true) : 0 ≤ x ∧ x ≤ 255 := by
  simp [Lit.wf, IntKind.min, IntKind.max, IntKind.signed, IntKind.bits] at h
  omega
end Go.Q
namespace Go.Q
open Go.Proofs Go.Shelf
def jl_ren : Go.Shelf.Ren := ⟨fun | 156 => 68 | 165 => 91 | 166 => 52 | 169 => 56 | 240 => 86 | 241 => 116 | 276 => 111 | 277 => 138 | n => n, fun | 31 => 32 | 9 => 9 | 3 => 3 | 4 => 4 | 0 => 0 | 20 => 20 | 72 => 90 | 76 => 93 | 70 => 88 | 37 => 55 | 75 => 92 | 127 => 131 | 164 => 150 | 5 => 5 | 80 => 97 | n => n, fun | n => n⟩
theorem jl : Go.Proofs.Lays.n156 Tryd.prog jl_ren := {
  mixed := by kernel_rfl
  f156 := Tryd.func68.trans (congrArg some (by kernel_rfl))
  f165 := Tryd.func91.trans (congrArg some (by kernel_rfl))
  f166 := Tryd.func52.trans (congrArg some (by kernel_rfl))
  f169 := Tryd.func56.trans (congrArg some (by kernel_rfl))
  f240 := Tryd.func86.trans (congrArg some (by kernel_rfl))
  f241 := Tryd.func116.trans (congrArg some (by kernel_rfl))
  f276 := Tryd.func111.trans (congrArg some (by kernel_rfl))
  f277 := Tryd.func138.trans (congrArg some (by kernel_rfl))
  t0 := Tryd.underlying0
  a0 := Tryd.isAgg0
  z0 := Tryd.sizeOf0
  v0 := Tryd.zeroValue0
  t3 := Tryd.underlying3
  a3 := Tryd.isAgg3
  z3 := Tryd.sizeOf3
  v3 := Tryd.zeroValue3
  t4 := Tryd.underlying4
  a4 := Tryd.isAgg4
  z4 := Tryd.sizeOf4
  v4 := Tryd.zeroValue4
  t9 := Tryd.underlying9
  a9 := Tryd.isAgg9
  z9 := Tryd.sizeOf9
  v9 := Tryd.zeroValue9
  t20 := Tryd.underlying20
  a20 := Tryd.isAgg20
  z20 := Tryd.sizeOf20
  v20 := Tryd.zeroValue20
  t31 := Tryd.underlying32
  a31 := Tryd.isAgg32
  z31 := Tryd.sizeOf32
  v31 := Tryd.zeroValue32
  t37 := Tryd.underlying55
  a37 := Tryd.isAgg55
  z37 := Tryd.sizeOf55
  v37 := Tryd.zeroValue55
  t70 := Tryd.underlying88
  a70 := Tryd.isAgg88
  z70 := Tryd.sizeOf88
  v70 := Tryd.zeroValue88
  t72 := Tryd.underlying90
  a72 := Tryd.isAgg90
  z72 := Tryd.sizeOf90
  v72 := Tryd.zeroValue90
  t75 := Tryd.underlying92
  a75 := Tryd.isAgg92
  z75 := Tryd.sizeOf92
  v75 := Tryd.zeroValue92
  t76 := Tryd.underlying93
  a76 := Tryd.isAgg93
  z76 := Tryd.sizeOf93
  v76 := Tryd.zeroValue93
  t127 := Tryd.underlying131
  a127 := Tryd.isAgg131
  z127 := Tryd.sizeOf131
  v127 := Tryd.zeroValue131
  t164 := Tryd.underlying150
  a164 := Tryd.isAgg150
  z164 := Tryd.sizeOf150
  v164 := Tryd.zeroValue150 }
def rpl_ren : Go.Shelf.Ren := ⟨fun | 105 => 57 | 212 => 89 | 99 => 90 | 165 => 91 | 166 => 52 | 170 => 58 | 169 => 56 | 263 => 113 | 264 => 114 | 206 => 115 | 240 => 86 | 241 => 116 | 276 => 111 | 277 => 138 | n => n, fun | 9 => 9 | 3 => 3 | 4 => 4 | 20 => 20 | 0 => 0 | 46 => 130 | 109 => 132 | 5 => 5 | 72 => 90 | 76 => 93 | 51 => 128 | 146 => 153 | 53 => 155 | 148 => 156 | 70 => 88 | 37 => 55 | 75 => 92 | 127 => 131 | 164 => 150 | 80 => 97 | n => n, fun | n => n⟩
theorem rpl : Go.Proofs.Lays.n105 Tryd.prog rpl_ren := {
  mixed := by kernel_rfl
  f99 := Tryd.func90.trans (congrArg some (by kernel_rfl))
  f105 := Tryd.func57.trans (congrArg some (by kernel_rfl))
  f165 := Tryd.func91.trans (congrArg some (by kernel_rfl))
  f166 := Tryd.func52.trans (congrArg some (by kernel_rfl))
  f169 := Tryd.func56.trans (congrArg some (by kernel_rfl))
  f170 := Tryd.func58.trans (congrArg some (by kernel_rfl))
  f206 := Tryd.func115.trans (congrArg some (by kernel_rfl))
  f212 := Tryd.func89.trans (congrArg some (by kernel_rfl))
  f240 := Tryd.func86.trans (congrArg some (by kernel_rfl))
  f241 := Tryd.func116.trans (congrArg some (by kernel_rfl))
  f263 := Tryd.func113.trans (congrArg some (by kernel_rfl))
  f264 := Tryd.func114.trans (congrArg some (by kernel_rfl))
  f276 := Tryd.func111.trans (congrArg some (by kernel_rfl))
  f277 := Tryd.func138.trans (congrArg some (by kernel_rfl))
  t0 := Tryd.underlying0
  a0 := Tryd.isAgg0
  z0 := Tryd.sizeOf0
  v0 := Tryd.zeroValue0
  t3 := Tryd.underlying3
  a3 := Tryd.isAgg3
  z3 := Tryd.sizeOf3
  v3 := Tryd.zeroValue3
  t4 := Tryd.underlying4
  a4 := Tryd.isAgg4
  z4 := Tryd.sizeOf4
  v4 := Tryd.zeroValue4
  t5 := Tryd.underlying5
  a5 := Tryd.isAgg5
  z5 := Tryd.sizeOf5
  v5 := Tryd.zeroValue5
  t9 := Tryd.underlying9
  a9 := Tryd.isAgg9
  z9 := Tryd.sizeOf9
  v9 := Tryd.zeroValue9
  t20 := Tryd.underlying20
  a20 := Tryd.isAgg20
  z20 := Tryd.sizeOf20
  v20 := Tryd.zeroValue20
  t37 := Tryd.underlying55
  a37 := Tryd.isAgg55
  z37 := Tryd.sizeOf55
  v37 := Tryd.zeroValue55
  t46 := Tryd.underlying130
  a46 := Tryd.isAgg130
  z46 := Tryd.sizeOf130
  v46 := Tryd.zeroValue130
  t51 := Tryd.underlying128
  a51 := Tryd.isAgg128
  z51 := Tryd.sizeOf128
  v51 := Tryd.zeroValue128
  t53 := Tryd.underlying155
  a53 := Tryd.isAgg155
  z53 := Tryd.sizeOf155
  v53 := Tryd.zeroValue155
  t70 := Tryd.underlying88
  a70 := Tryd.isAgg88
  z70 := Tryd.sizeOf88
  v70 := Tryd.zeroValue88
  t72 := Tryd.underlying90
  a72 := Tryd.isAgg90
  z72 := Tryd.sizeOf90
  v72 := Tryd.zeroValue90
  t75 := Tryd.underlying92
  a75 := Tryd.isAgg92
  z75 := Tryd.sizeOf92
  v75 := Tryd.zeroValue92
  t76 := Tryd.underlying93
  a76 := Tryd.isAgg93
  z76 := Tryd.sizeOf93
  v76 := Tryd.zeroValue93
  t109 := Tryd.underlying132
  a109 := Tryd.isAgg132
  z109 := Tryd.sizeOf132
  v109 := Tryd.zeroValue132
  t127 := Tryd.underlying131
  a127 := Tryd.isAgg131
  z127 := Tryd.sizeOf131
  v127 := Tryd.zeroValue131
  t146 := Tryd.underlying153
  a146 := Tryd.isAgg153
  z146 := Tryd.sizeOf153
  v146 := Tryd.zeroValue153
  t148 := Tryd.underlying156
  a148 := Tryd.isAgg156
  z148 := Tryd.sizeOf156
  v148 := Tryd.zeroValue156
  t164 := Tryd.underlying150
  a164 := Tryd.isAgg150
  z164 := Tryd.sizeOf150
  v164 := Tryd.zeroValue150 }
def mul_ren : Go.Shelf.Ren := ⟨fun | 212 => 89 | 263 => 113 | 264 => 114 | n => n, fun | 46 => 130 | 51 => 128 | 146 => 153 | 53 => 155 | 148 => 156 | n => n, fun | n => n⟩
theorem mul : Go.Proofs.Lays.n212 Tryd.prog mul_ren := {
  mixed := by kernel_rfl
  f212 := Tryd.func89.trans (congrArg some (by kernel_rfl))
  f263 := Tryd.func113.trans (congrArg some (by kernel_rfl))
  f264 := Tryd.func114.trans (congrArg some (by kernel_rfl))
  t46 := Tryd.underlying130
  a46 := Tryd.isAgg130
  z46 := Tryd.sizeOf130
  v46 := Tryd.zeroValue130
  t51 := Tryd.underlying128
  a51 := Tryd.isAgg128
  z51 := Tryd.sizeOf128
  v51 := Tryd.zeroValue128
  t53 := Tryd.underlying155
  a53 := Tryd.isAgg155
  z53 := Tryd.sizeOf155
  v53 := Tryd.zeroValue155
  t146 := Tryd.underlying153
  a146 := Tryd.isAgg153
  z146 := Tryd.sizeOf153
  v146 := Tryd.zeroValue153
  t148 := Tryd.underlying156
  a148 := Tryd.isAgg156
  z148 := Tryd.sizeOf156
  v148 := Tryd.zeroValue156 }
theorem jl_extra : Builder.Extra Tryd.prog jl_ren := {
  sizeBuilder := by kernel_rfl
  liesBuilder := by kernel_rfl
  t5 := Tryd.underlying5
  a5 := Tryd.isAgg5
  z5 := Tryd.sizeOf5
  v5 := Tryd.zeroValue5
  infoByte := by kernel_rfl
  cellsByte := by kernel_rfl
  sizeByte := by kernel_rfl
  neB5 := by decide }
theorem Has.of_below {E w w' : World} {ss : List (List Hp)} (H : Has E w ss) (hb : Go.RowKit.Below w.heap.size w w') : Has E w' ss :=
  ⟨hb.os.trans H.os, hb.tape.trans H.tape, hb.output.trans H.output, H.dj, fun h hh b o ho => by
    have h1 := Has0.sub H h hh b o ho
    rw [hb.block b (Array.getElem?_eq_some_iff.1 h1).1]; exact h1⟩
theorem join_flat : ∀ l : List (List UInt8), Lib.join l [] = l.flatten
  | [] => rfl
  | [x] => by rw [Lib.join_one]; simp
  | x :: y :: r => by
    have h := join_flat (y :: r)
    unfold Lib.join List.intercalate at *
    rw [List.intersperse_cons_cons, List.flatten_cons, List.flatten_cons, h, List.nil_append]; rfl
theorem join_c {E w : World} {R : List Hp} (hH : Has E w [R]) {v : Value} {l : List (List UInt8)} (hv : Sl R 1 v l.length (l.map S)) (hn : l.length ≤ 1000000) (hl : l.flatten.length ≤ 1000000000) :
    Calls Tryd.prog 68 #[v, S []] w fun e w' => e = .returned (S l.flatten) ∧ Has E w' [R] := by
  obtain ⟨p, cap, rfl, h1, h2, h3, h4⟩ := hv
  rcases Nat.eq_zero_or_pos l.length with h0 | h0
  · obtain rfl := List.eq_nil_of_length_eq_zero h0
    exact (Any.strings_Join_none jl jl_extra p cap ⟨#[]⟩ w).mono fun e w' ⟨he, hw⟩ => ⟨he, by rw [hw]; exact hH⟩
  · obtain ⟨b, off, rfl, hc⟩ := h4 h0
    have hcell : ∀ (j : Nat) x, (l.map (fun a => (⟨a.toArray⟩ : ByteArray)))[j]? = some x → w.cell? ⟨b, off + j, none⟩ = some (.string x) := fun j x hx => by
      rw [List.getElem?_map, Option.map_eq_some_iff] at hx
      obtain ⟨a, ha, rfl⟩ := hx
      exact hH.cell (L := R) (by simp) hc (v := S a) (by rw [List.getElem?_map, ha]; rfl)
    have hb : b < w.heap.size := by
      obtain ⟨x, hx⟩ : ∃ x, l[0]? = some x := ⟨l[0], List.getElem?_eq_getElem h0⟩
      have := hcell 0 ⟨x.toArray⟩ (by rw [List.getElem?_map, hx]; rfl)
      unfold World.cell? at this
      cases hw : w.heap[b]? with
      | none => rw [hw] at this; cases this
      | some o => exact (Array.getElem?_eq_some_iff.1 hw).1
    have e1 : (l.map (fun a => (⟨a.toArray⟩ : ByteArray))).map (·.data.toList) = l := by rw [List.map_map]; simp [Function.comp_def]
    have hj : Lib.join ((l.map (fun a => (⟨a.toArray⟩ : ByteArray))).map (·.data.toList)) ((⟨#[]⟩ : ByteArray).data.toList) = l.flatten := by rw [e1]; exact join_flat l
    have hs := Any.strings_Join jl jl_extra b off cap (l.map (fun a => (⟨a.toArray⟩ : ByteArray))) ⟨#[]⟩ w hcell hb (by rw [List.length_map]; omega) (by rw [List.length_map]; exact h1) (by rw [hj]; omega)
    rw [hj, List.length_map] at hs
    exact hs.mono fun e w' ⟨he, hb⟩ => ⟨he, hH.of_below hb⟩
theorem rpl_extra : Builder.Extra Tryd.prog rpl_ren := {
  sizeBuilder := by kernel_rfl
  liesBuilder := by kernel_rfl
  t5 := Tryd.underlying5
  a5 := Tryd.isAgg5
  z5 := Tryd.sizeOf5
  v5 := Tryd.zeroValue5
  infoByte := by kernel_rfl
  cellsByte := by kernel_rfl
  sizeByte := by kernel_rfl
  neB5 := by decide }
theorem repeat_c {E w : World} {R : List Hp} (hH : Has E w [R]) (n : Nat) (hn : n ≤ 1000000) : Calls Tryd.prog 57 #[S [0], .int .i64 (n : Int)] w fun e w' => e = .returned (S (List.replicate n 0)) ∧ Has E w' [R] := by
  have h := Any.strings_Repeat rpl rpl_extra ⟨#[0]⟩ n w (by omega) (by show 1 * n ≤ _; omega)
  refine h.mono fun e w' ⟨he, hb⟩ => ⟨?_, hH.of_below hb⟩
  rw [he]
  have : ∀ n, Lib.repeatL [(0 : UInt8)] n = List.replicate n 0 := fun n => by
    induction n with
    | zero => rfl
    | succ n ih => simp [Lib.repeatL, List.replicate_succ] at *; try exact ih
  exact congrArg (fun l => Ending.returned (Value.string ⟨l.toArray⟩)) (this n)
theorem mul_c {E w : World} {R : List Hp} (hH : Has E w [R]) (x y : Nat) (h : x * y < 18446744073709551616) (hx : x < 18446744073709551616) (hy : y < 18446744073709551616) : Calls Tryd.prog 89 #[.int .u64 x, .int .u64 y] w fun e w' => e = .returned (.tuple #[.int .u64 0, .int .u64 ((x * y : Nat) : Int)]) ∧ Has E w' [R] := by
  refine (Any.bits_Mul mul x y hx hy w).mono fun e w' ⟨he, hw⟩ => ⟨?_, hw ▸ hH⟩
  rw [he, Nat.div_eq_of_lt h, Nat.mod_eq_of_lt h]; rfl
end Go.Q
namespace Go.Q
open Go.Proofs
set_option linter.unusedVariables false
set_option maxRecDepth 100000
attribute [local irreducible] wpList OK Code.wp
set_option maxHeartbeats 4000000 in
theorem laid_c {E w : World} {R : List Hp} (hH : Has E w [R]) (hg : CellsAt R 0 0 nibV) {v : Value} {l : List (List UInt8)} (hv : Sl R 1 v l.length (l.map sV)) (hlb : ∀ x ∈ l, x.length ≤ 9223372036854775807) :
    Calls Tryd.prog 88 #[v] w fun e w' => e = .returned (S (laidS (crcS l.flatten))) ∧ Has E w' [R] := by
  refine c_enter (args := [v]) Tryd.func88 rfl Tryd.ntmps88 (by simp) ?_
  refine wp_seq_k fun K1 hK1 => ?_
  refine c_region ?_
  refine s_op (o_assign (v := (S ([] : List UInt8))) rfl ?_)
  refine s_nil ?_
  refine t_norm (hK1 _ _ ?_)
  refine wp_seq_k fun K2 hK2 => ?_
  refine c_region ?_
  refine s_op (o_move (v := v) rfl ?_)
  refine s_op (o_callf (vs := #[v]) ca112 rfl (args1 rfl) (of2_c hH.all (hg.mono (seg_sub 0 rfl)) (hv.mono (seg_sub 0 rfl)) hlb) ?_)
  rintro _ w5 ⟨rfl, hX3⟩
  refine ⟨_, rfl, ?_⟩
  have hH4 := hX3.of_all
  refine s_op (o_assign (v := (.int .u32 ((crcS l.flatten).toNat : Int))) rfl ?_)
  refine s_nil ?_
  refine t_norm (hK2 _ _ ?_)
  refine wp_seq_k fun K6 hK6 => ?_
  refine c_region ?_
  refine s_op (o_move (v := (.int .u32 ((crcS l.flatten).toNat : Int))) rfl ?_)
  refine s_op (o_conv (c := ((lo8 (crcS l.flatten)).toNat : Int)) Tryd.underlying128 Tryd.underlying5 rfl (conv_lo8 _) ?_)
  refine s_op (o_move (v := (.int .u32 ((crcS l.flatten).toNat : Int))) rfl ?_)
  refine s_op (o_shr (a := (((crcS l.flatten)).toNat : Int)) (b := ((8 : Nat) : Int)) (c := (((crcS l.flatten) >>> 8).toNat : Int)) rfl rfl (by omega) (shr32 (crcS l.flatten) 8 (by omega)) ?_)
  refine s_op (o_conv (c := ((lo8 ((crcS l.flatten) >>> 8)).toNat : Int)) Tryd.underlying128 Tryd.underlying5 rfl (conv_lo8 _) ?_)
  refine s_op (o_move (v := (.int .u32 ((crcS l.flatten).toNat : Int))) rfl ?_)
  refine s_op (o_shr (a := (((crcS l.flatten)).toNat : Int)) (b := ((16 : Nat) : Int)) (c := (((crcS l.flatten) >>> 16).toNat : Int)) rfl rfl (by omega) (shr32 (crcS l.flatten) 16 (by omega)) ?_)
  refine s_op (o_conv (c := ((lo8 ((crcS l.flatten) >>> 16)).toNat : Int)) Tryd.underlying128 Tryd.underlying5 rfl (conv_lo8 _) ?_)
  refine s_op (o_move (v := (.int .u32 ((crcS l.flatten).toNat : Int))) rfl ?_)
  refine s_op (o_shr (a := (((crcS l.flatten)).toNat : Int)) (b := ((24 : Nat) : Int)) (c := (((crcS l.flatten) >>> 24).toNat : Int)) rfl rfl (by omega) (shr32 (crcS l.flatten) 24 (by omega)) ?_)
  refine s_op (o_conv (c := ((lo8 ((crcS l.flatten) >>> 24)).toNat : Int)) Tryd.underlying128 Tryd.underlying5 rfl (conv_lo8 _) ?_)
  refine s_op (o_buildSlice (ps := #[(0, (bV (lo8 (crcS l.flatten)))), (1, (bV (lo8 ((crcS l.flatten) >>> 8)))), (2, (bV (lo8 ((crcS l.flatten) >>> 16)))), (3, (bV (lo8 ((crcS l.flatten) >>> 24))))]) (cells := #[(bV (lo8 (crcS l.flatten))), (bV (lo8 ((crcS l.flatten) >>> 8))), (bV (lo8 ((crcS l.flatten) >>> 16))), (bV (lo8 ((crcS l.flatten) >>> 24)))]) Tryd.underlying55 ti5 (by decide) (parts4 rfl rfl rfl rfl) (by kernel_rfl) hH4 fun b7 w8 hH9 => ?_)
  refine s_op (o_bstr Tryd.underlying55 Tryd.underlying5 Tryd.underlying9 rfl (sl_lit (f := bV) (l := [(lo8 (crcS l.flatten)), (lo8 ((crcS l.flatten) >>> 8)), (lo8 ((crcS l.flatten) >>> 16)), (lo8 ((crcS l.flatten) >>> 24))]) rfl rfl (by simp)) hH9 (seg_sub 0 rfl) ?_)
  refine s_op (o_assign (v := (S [(lo8 (crcS l.flatten)), (lo8 ((crcS l.flatten) >>> 8)), (lo8 ((crcS l.flatten) >>> 16)), (lo8 ((crcS l.flatten) >>> 24))])) rfl ?_)
  refine s_nil ?_
  refine t_norm (hK6 _ _ ?_)
  refine wp_ret ?_
  refine c_ret1 Tryd.results88  (v := (S [(lo8 (crcS l.flatten)), (lo8 ((crcS l.flatten) >>> 8)), (lo8 ((crcS l.flatten) >>> 16)), (lo8 ((crcS l.flatten) >>> 24))])) rfl ?_
  have hH10 : Has E w8 [R] := (hH9.front 1 rfl).first 1 rfl
  exact ⟨rfl, hH10⟩
set_option maxHeartbeats 4000000 in
theorem reflaid_c {E w : World} {R : List Hp} (hH : Has E w [R]) (t : List UInt8) (hl : t.length ≤ 9223372036854775807) :
    Calls Tryd.prog 48 #[(S t)] w fun e w' => e = .returned (S (laidS (crcS t))) ∧ Has E w' [R] := by
  refine c_enter (args := [(S t)]) Tryd.func48 rfl Tryd.ntmps48 (by simp) ?_
  refine wp_seq_k fun K1 hK1 => ?_
  refine c_region ?_
  refine s_op (o_assign (v := (S ([] : List UInt8))) rfl ?_)
  refine s_nil ?_
  refine t_norm (hK1 _ _ ?_)
  refine wp_seq_k fun K2 hK2 => ?_
  refine c_region ?_
  refine s_op (o_move (v := (S t)) rfl ?_)
  refine s_op (o_callf (vs := #[(S t)]) ca85 rfl (args1 rfl) (refsum_c hH.all t hl) ?_)
  rintro _ w5 ⟨rfl, hX3⟩
  refine ⟨_, rfl, ?_⟩
  have hH4 := hX3.of_all
  refine s_op (o_assign (v := (.int .u32 ((crcS t).toNat : Int))) rfl ?_)
  refine s_nil ?_
  refine t_norm (hK2 _ _ ?_)
  refine wp_seq_k fun K6 hK6 => ?_
  refine c_region ?_
  refine s_op (o_move (v := (.int .u32 ((crcS t).toNat : Int))) rfl ?_)
  refine s_op (o_rem (a := ((crcS t).toNat : Int)) (b := 256) (c := ((crcS t).toNat : Int) % 256) rfl rfl (by omega) ((Int.tmod_eq_emod_of_nonneg (by first | exact Int.natCast_nonneg _ | omega))) ?_)
  refine s_op (o_conv (c := ((by8 (((crcS t).toNat : Int) % 256)).toNat : Int)) Tryd.underlying128 Tryd.underlying5 rfl (wrap_by8 _) ?_)
  refine s_op (o_move (v := (.int .u32 ((crcS t).toNat : Int))) rfl ?_)
  refine s_op (o_quo (a := (((crcS t)).toNat : Int)) (b := ((256 : Nat) : Int)) (c := (((crcS t) >>> 8).toNat : Int)) rfl rfl (by decide) (quo32 (crcS t) 256 8 (by decide)) ?_)
  refine s_op (o_rem (a := (((crcS t) >>> 8).toNat : Int)) (b := 256) (c := (((crcS t) >>> 8).toNat : Int) % 256) rfl rfl (by omega) ((Int.tmod_eq_emod_of_nonneg (by first | exact Int.natCast_nonneg _ | omega))) ?_)
  refine s_op (o_conv (c := ((by8 ((((crcS t) >>> 8).toNat : Int) % 256)).toNat : Int)) Tryd.underlying128 Tryd.underlying5 rfl (wrap_by8 _) ?_)
  refine s_op (o_move (v := (.int .u32 ((crcS t).toNat : Int))) rfl ?_)
  refine s_op (o_quo (a := (((crcS t)).toNat : Int)) (b := ((65536 : Nat) : Int)) (c := (((crcS t) >>> 16).toNat : Int)) rfl rfl (by decide) (quo32 (crcS t) 65536 16 (by decide)) ?_)
  refine s_op (o_rem (a := (((crcS t) >>> 16).toNat : Int)) (b := 256) (c := (((crcS t) >>> 16).toNat : Int) % 256) rfl rfl (by omega) ((Int.tmod_eq_emod_of_nonneg (by first | exact Int.natCast_nonneg _ | omega))) ?_)
  refine s_op (o_conv (c := ((by8 ((((crcS t) >>> 16).toNat : Int) % 256)).toNat : Int)) Tryd.underlying128 Tryd.underlying5 rfl (wrap_by8 _) ?_)
  refine s_op (o_move (v := (.int .u32 ((crcS t).toNat : Int))) rfl ?_)
  refine s_op (o_quo (a := (((crcS t)).toNat : Int)) (b := ((16777216 : Nat) : Int)) (c := (((crcS t) >>> 24).toNat : Int)) rfl rfl (by decide) (quo32 (crcS t) 16777216 24 (by decide)) ?_)
  refine s_op (o_conv (c := ((lo8 ((crcS t) >>> 24)).toNat : Int)) Tryd.underlying128 Tryd.underlying5 rfl (conv_lo8 _) ?_)
  refine s_op (o_buildSlice (ps := #[(0, (bV (by8 (((crcS t).toNat : Int) % 256)))), (1, (bV (by8 ((((crcS t) >>> 8).toNat : Int) % 256)))), (2, (bV (by8 ((((crcS t) >>> 16).toNat : Int) % 256)))), (3, (bV (lo8 ((crcS t) >>> 24))))]) (cells := #[(bV (by8 (((crcS t).toNat : Int) % 256))), (bV (by8 ((((crcS t) >>> 8).toNat : Int) % 256))), (bV (by8 ((((crcS t) >>> 16).toNat : Int) % 256))), (bV (lo8 ((crcS t) >>> 24)))]) Tryd.underlying55 ti5 (by decide) (parts4 rfl rfl rfl rfl) (by kernel_rfl) hH4 fun b7 w8 hH9 => ?_)
  refine s_op (o_bstr Tryd.underlying55 Tryd.underlying5 Tryd.underlying9 rfl (sl_lit (f := bV) (l := [(by8 (((crcS t).toNat : Int) % 256)), (by8 ((((crcS t) >>> 8).toNat : Int) % 256)), (by8 ((((crcS t) >>> 16).toNat : Int) % 256)), (lo8 ((crcS t) >>> 24))]) rfl rfl (by simp)) hH9 (seg_sub 0 rfl) ?_)
  refine s_op (o_assign (v := (S [(by8 (((crcS t).toNat : Int) % 256)), (by8 ((((crcS t) >>> 8).toNat : Int) % 256)), (by8 ((((crcS t) >>> 16).toNat : Int) % 256)), (lo8 ((crcS t) >>> 24))])) rfl ?_)
  refine s_nil ?_
  refine t_norm (hK6 _ _ ?_)
  refine wp_ret ?_
  refine c_ret1 Tryd.results48  (v := (S [(by8 (((crcS t).toNat : Int) % 256)), (by8 ((((crcS t) >>> 8).toNat : Int) % 256)), (by8 ((((crcS t) >>> 16).toNat : Int) % 256)), (lo8 ((crcS t) >>> 24))])) rfl ?_
  have hH10 : Has E w8 [R] := (hH9.front 1 rfl).first 1 rfl
  exact ⟨by rw [laidS_ref], hH10⟩
set_option maxHeartbeats 4000000 in
theorem seal_c {E w : World} {R : List Hp} (hH : Has E w [R]) (hg : CellsAt R 0 0 nibV) {v : Value} {l : List (List UInt8)} (hv : Sl R 1 v l.length (l.map sV)) (hn : l.length ≤ 1000000) (hl : l.flatten.length ≤ 1000000000) :
    Calls Tryd.prog 55 #[v] w fun e w' => e = .returned (S (sealS l.flatten)) ∧ Has E w' [R] := by
  refine c_enter (args := [v]) Tryd.func55 rfl Tryd.ntmps55 (by simp) ?_
  refine wp_seq_k fun K1 hK1 => ?_
  refine c_region ?_
  refine s_op (o_assign (v := (S ([] : List UInt8))) rfl ?_)
  refine s_nil ?_
  refine t_norm (hK1 _ _ ?_)
  refine wp_seq_k fun K2 hK2 => ?_
  refine c_region ?_
  refine s_op (o_move (v := v) rfl ?_)
  refine s_op (o_callf (vs := #[v, (S ([] : List UInt8))]) ca68 rfl (args2 rfl rfl) (join_c hH.all (hv.mono (seg_sub 0 rfl)) hn hl) ?_)
  rintro _ w5 ⟨rfl, hX3⟩
  refine ⟨_, rfl, ?_⟩
  have hH4 := hX3.of_all
  refine s_op (o_move (v := v) rfl ?_)
  refine s_op (o_callf (vs := #[v]) ca88 rfl (args1 rfl) (laid_c hH4.all (hg.mono (seg_sub 0 rfl)) (hv.mono (seg_sub 0 rfl)) (fun x hx => by have := flat_le hx; omega)) ?_)
  rintro _ w8 ⟨rfl, hX6⟩
  refine ⟨_, rfl, ?_⟩
  have hH7 := hX6.of_all
  refine s_op (o_sadd rfl rfl (by rw [laidS_len]; omega) ?_)
  refine s_op (o_assign (v := (S (l.flatten ++ (laidS (crcS l.flatten))))) rfl ?_)
  refine s_nil ?_
  refine t_norm (hK2 _ _ ?_)
  refine wp_ret ?_
  refine c_ret1 Tryd.results55  (v := (S (l.flatten ++ (laidS (crcS l.flatten))))) rfl ?_
  exact ⟨rfl, hH7⟩
end Go.Q
namespace Go.Q
theorem setE_bad {no gsn g : Int} {l : List Cel} {key : Bs} {v : Bool × Bs} (h : pageR no gsn l = false ∨ keyR key = false ∨ valR v = false ∨ g ≤ gsn ∨ 4611686018427387903 < g) : setE no gsn l key v g = 1 := by
  unfold setE
  rw [if_neg]
  intro e
  simp only [Bool.and_eq_true, decide_eq_true_eq] at e
  rcases h with h | h | h | h | h
  · rw [e.1.1.1] at h; cases h
  · rw [e.1.1.2] at h; cases h
  · rw [e.1.2] at h; cases h
  · omega
  · omega
theorem setE_ok {no gsn g : Int} {l : List Cel} {key : Bs} {v : Bool × Bs} (h1 : pageR no gsn l = true) (h2 : keyR key = true) (h3 : valR v = true) (h4 : ¬ g ≤ gsn) (h5 : ¬ 4611686018427387903 < g) :
    setE no gsn l key v g = if v.1 = false ∧ hasC l key = false then 7 else if v.1 = true ∧ hasC l key = false ∧ 8 ≤ l.length then 4 else 0 := by
  unfold setE
  rw [if_pos]
  simp only [Bool.and_eq_true, decide_eq_true_eq]
  exact ⟨⟨⟨h1, h2⟩, h3⟩, by omega⟩
theorem setE_one {no gsn g : Int} {l : List Cel} {key : Bs} {v : Bool × Bs} (h : setE no gsn l key v g ≠ 1) : pageR no gsn l = true ∧ keyR key = true ∧ valR v = true ∧ gsn < g ∧ g ≤ 4611686018427387903 := by
  unfold setE at h
  split at h
  · rename_i e
    simp only [Bool.and_eq_true, decide_eq_true_eq] at e
    exact ⟨e.1.1.1, e.1.1.2, e.1.2, e.2⟩
  · exact absurd rfl h
/-- the page that is told -/
def setNo (no gsn : Int) (l : List Cel) (key : Bs) (v : Bool × Bs) (g : Int) : Int := if setE no gsn l key v g = 0 then no else 0
def setG (no gsn : Int) (l : List Cel) (key : Bs) (v : Bool × Bs) (g : Int) : Int := if setE no gsn l key v g = 0 then g else 0
def setL (no gsn : Int) (l : List Cel) (key : Bs) (v : Bool × Bs) (g : Int) : List Cel := if setE no gsn l key v g = 0 then setC l key v else []
theorem pageR_iff {no gsn : Int} {l : List Cel} : pageR no gsn l = true ↔ (0 ≤ no ∧ no < 64 ∧ 0 ≤ gsn ∧ gsn ≤ 4611686018427387903) ∧ cellsR l = true := by
  unfold pageR; rw [Bool.and_eq_true, decide_eq_true_iff]
/-! ### as the document makes it -/
def putL (key s : Bs) : Bool → List Cel → List Cel
  | d, [] => if d = true then [] else [(key, s)]
  | d, c :: t => (if d = false ∧ ¬ c.1 < key then [(key, s)] else []) ++ ((if c.1 ≠ key then [c] else []) ++ putL key s (d || !decide (c.1 < key)) t)
theorem putL_step {key s : Bs} {d : Bool} {l out : List Cel} {k : Nat} {c : Cel} {X : List Cel} (h : X = out ++ putL key s d (l.drop k)) (hx : l[k]? = some c) :
    X = out ++ (if d = false ∧ ¬ c.1 < key then [(key, s)] else []) ++ (if c.1 ≠ key then [c] else []) ++ putL key s (d || !decide (c.1 < key)) (l.drop (k + 1)) := by
  obtain ⟨h1, h2⟩ := List.getElem?_eq_some_iff.1 hx
  rw [h, List.drop_eq_getElem_cons h1, h2, putL]
  simp only [List.append_assoc]
theorem putL_end {key s : Bs} {d : Bool} {l out : List Cel} {k : Nat} {X : List Cel} (h : X = out ++ putL key s d (l.drop k)) (hk : k = l.length) : X = out ++ (if d = true then [] else [(key, s)]) := by
  rw [h, hk, List.drop_length, putL]
theorem putL_true {key s : Bs} : ∀ {l : List Cel}, putL key s true l = l.filter fun c => decide (c.1 ≠ key)
  | [] => rfl
  | c :: t => by
    rw [putL, List.filter_cons, Bool.true_or, putL_true]
    by_cases h : c.1 = key <;> simp [h]
theorem rises_cons {c : Cel} {t : List Cel} (h : Rises (c :: t)) : (∀ a ∈ t, c.1 < a.1) ∧ Rises t := List.pairwise_cons.1 h
theorem pos_zero {key : Bs} {l : List Cel} (h : ∀ a ∈ l, ¬ a.1 < key) : posC l key = 0 := by
  unfold posC
  rw [List.filter_eq_nil_iff.2 (fun a ha => by simpa using h a ha)]; rfl
theorem pos_cons {key : Bs} {c : Cel} {t : List Cel} (h : c.1 < key) : (posC (c :: t) key).toNat = (posC t key).toNat + 1 := by
  unfold posC
  rw [List.filter_cons, if_pos (decide_eq_true h)]
  simp only [List.length_cons]; omega
theorem has_cons {key : Bs} {c : Cel} {t : List Cel} (h : c.1 ≠ key) : hasC (c :: t) key = hasC t key := by
  unfold hasC; rw [List.any_cons, decide_eq_false h, Bool.false_or]
theorem filter_same {key : Bs} {l : List Cel} (h : ∀ a ∈ l, key < a.1) : (l.filter fun c => decide (c.1 ≠ key)) = l := List.filter_eq_self.2 fun a ha => decide_eq_true fun e => by
  have := h a ha; rw [e] at this; exact bs_irr _ this
theorem has_none {key : Bs} {l : List Cel} (h : ∀ a ∈ l, key < a.1) : hasC l key = false := by
  unfold hasC; rw [List.any_eq_false]; intro a ha
  rw [decide_eq_true_iff]; intro e
  have := h a ha; rw [e] at this; exact bs_irr _ this
theorem put_true {key s : Bs} : ∀ {l : List Cel}, Rises l → putL key s false l = setC l key (true, s)
  | [], _ => by simp [putL, setC, hasC, posC, insAt]
  | c :: t, h => by
    obtain ⟨h1, h2⟩ := rises_cons h
    by_cases hlt : c.1 < key
    · have hne : c.1 ≠ key := fun e => by rw [e] at hlt; exact bs_irr _ hlt
      have ih := put_true (key := key) (s := s) h2
      rw [putL, if_neg (by simp [hlt]), if_pos hne, decide_eq_true hlt, List.nil_append, Bool.not_true, Bool.or_false, ih]
      unfold setC
      rw [if_pos rfl, if_pos rfl, has_cons hne, pos_cons hlt]
      split
      · rfl
      · simp [insAt]
    · rw [putL, if_pos ⟨rfl, hlt⟩, decide_eq_false hlt, Bool.not_false, Bool.or_true, putL_true]
      unfold setC
      rw [if_pos rfl]
      by_cases he : c.1 = key
      · have ht : ∀ a ∈ t, key < a.1 := fun a ha => by rw [← he]; exact h1 a ha
        rw [if_pos (show hasC (c :: t) key = true by unfold hasC; rw [List.any_cons, decide_eq_true he, Bool.true_or]), pos_zero (fun a ha => ?_), if_neg (by simp [he]), filter_same ht]
        · rfl
        · rcases List.mem_cons.1 ha with e | e
          · rw [e]; exact hlt
          · exact fun g => bs_irr _ (bs_tr g (ht a e))
      · have hgt : key < c.1 := by
          rcases List.le_iff_lt_or_eq.1 (List.not_lt.1 hlt) with e | e
          · exact e
          · exact absurd e.symm he
        have ht : ∀ a ∈ t, key < a.1 := fun a ha => bs_tr hgt (h1 a ha)
        rw [if_neg (show ¬ hasC (c :: t) key = true by rw [has_cons he, has_none ht]; simp), pos_zero (fun a ha => ?_), if_pos he, filter_same ht]
        · simp [insAt]
        · rcases List.mem_cons.1 ha with e | e
          · rw [e]; exact hlt
          · exact fun g => bs_irr _ (bs_tr g (ht a e))
theorem put_false {key s : Bs} : ∀ {l : List Cel}, Rises l → hasC l key = true → putL key s true l = setC l key (false, s)
  | [], _, hh => by simp [hasC] at hh
  | c :: t, h, hh => by
    obtain ⟨h1, h2⟩ := rises_cons h
    rw [putL_true]
    unfold setC
    rw [if_neg (by simp)]
    by_cases he : c.1 = key
    · have ht : ∀ a ∈ t, key < a.1 := fun a ha => by rw [← he]; exact h1 a ha
      rw [pos_zero (fun a ha => ?_), List.filter_cons, if_neg (by simp [he]), filter_same ht]
      · rfl
      · rcases List.mem_cons.1 ha with e | e
        · rw [e, he]; exact bs_irr _
        · exact fun g => bs_irr _ (bs_tr g (ht a e))
    · have hh2 : hasC t key = true := by rw [← has_cons he]; exact hh
      have hlt : c.1 < key := by
        obtain ⟨a, ha, hb⟩ := List.any_eq_true.1 hh2
        have := h1 a ha
        rw [of_decide_eq_true hb] at this; exact this
      have ih := put_false (key := key) (s := s) h2 hh2
      rw [putL_true] at ih
      unfold setC at ih
      rw [if_neg (by simp)] at ih
      rw [List.filter_cons, if_pos (decide_eq_true he), ih, pos_cons hlt]
      rfl
theorem getC_has : ∀ (l : List Cel) (key : Bs), (getC l key).1 = hasC l key
  | [], _ => rfl
  | c :: t, key => by
    rw [getC]
    by_cases h : c.1 = key
    · rw [if_pos h]; unfold hasC; rw [List.any_cons, decide_eq_true h]; rfl
    · rw [if_neg h, has_cons h]; exact getC_has t key
/-- the document's page, where it tells one -/
theorem put_eq {l : List Cel} {key : Bs} {v : Bool × Bs} (h : Rises l) (hh : v.1 = true ∨ hasC l key = true) : putL key v.2 (!v.1) l = setC l key v := by
  obtain ⟨a, s⟩ := v
  cases a with
  | true => exact put_true h
  | false => exact put_false h (hh.elim (fun e => by cases e) id)
end Go.Q
namespace Go.Q
theorem same_next {α : Type} {a b : List α} {k : Nat} {x y : α} (h : ∀ j, j < k → a[j]? = b[j]?) (hx : a[k]? = some x) (hy : b[k]? = some y) (e : x = y) : ∀ j, j < k + 1 → a[j]? = b[j]? := fun j hj => by
  rcases Nat.lt_or_ge j k with g | g
  · exact h j g
  · obtain rfl : j = k := by omega
    rw [hx, hy, e]
theorem same_all {α : Type} {a b : List α} {k : Nat} (h : ∀ j, j < k → a[j]? = b[j]?) (hk : k = a.length) (hl : a.length = b.length) : a = b := List.ext_getElem? fun j => by
  rcases Nat.lt_or_ge j k with g | g
  · exact h j g
  · rw [List.getElem?_eq_none (by omega), List.getElem?_eq_none (by omega)]
theorem same_not {α : Type} {a b : List α} {k : Nat} {x y : α} (hx : a[k]? = some x) (hy : b[k]? = some y) (e : x ≠ y) : a ≠ b := fun g => by
  subst g; rw [hx] at hy; cases hy; exact e rfl
theorem key_eq0 {k : Bs} (h : (k.length : Int) < 1 ∨ 8 < (k.length : Int)) : keyR k = false := by
  unfold keyR
  rw [Bool.and_eq_false_iff, decide_eq_false_iff_not, decide_eq_false_iff_not]
  rcases h with h | h
  · exact .inl (fun g => g (List.eq_nil_of_length_eq_zero (by omega)))
  · exact .inr (by omega)
theorem key_eq1 {k : Bs} (h : 1 ≤ (k.length : Int) ∧ (k.length : Int) ≤ 8) : keyR k = true := by
  unfold keyR
  rw [Bool.and_eq_true, decide_eq_true_iff, decide_eq_true_iff]
  exact ⟨fun g => by rw [g] at h; simp at h, h.2⟩
theorem key_eq2 {k : Bs} (h : 1 ≤ (k.length : Int)) : keyR k = decide ((k.length : Int) ≤ 8) := by
  by_cases g : (k.length : Int) ≤ 8
  · rw [key_eq1 ⟨h, g⟩, decide_eq_true g]
  · rw [key_eq0 (.inr (by omega)), decide_eq_false g]
theorem pageR_no {no gsn : Int} {l : List Cel} (h : ¬ (0 ≤ no ∧ no < 64 ∧ 0 ≤ gsn ∧ gsn ≤ 4611686018427387903) ∨ 8 < l.length) : pageR no gsn l = false := by
  cases e : pageR no gsn l with
  | false => rfl
  | true =>
    obtain ⟨h1, h2⟩ := pageR_iff.1 e
    have h3 := (cellsR_iff.1 h2).2.2
    rcases h with h | h
    · exact absurd h1 h
    · omega
theorem pageR_nc {no gsn : Int} {l : List Cel} (h : cellsR l = false) : pageR no gsn l = false := by unfold pageR; rw [h, Bool.and_false]
end Go.Q
namespace Go.Q
theorem great_next {l : List Cel} {k : Nat} {c : Cel} (h : ∀ c ∈ l.take k, c.1.length ≤ 100 ∧ c.2.length ≤ 100) (hx : l[k]? = some c) (hc : c.1.length ≤ 100 ∧ c.2.length ≤ 100) : ∀ c ∈ l.take (k + 1), c.1.length ≤ 100 ∧ c.2.length ≤ 100 := by
  rw [take_succ_of hx]
  intro a ha
  rcases List.mem_append.1 ha with e | e
  · exact h a e
  · rw [List.mem_singleton.1 e]; exact hc
end Go.Q
namespace Go.Q
/-- A row of one's own whose block bears a mark behind its last cell. -/
def OwnZ (e : TypeId) (v : Value) (n : Nat) (cs : List Value) (hs : List Hp) : Prop :=
  cs.length = n ∧ ∃ b cap cur, v = .slice (some ⟨b, 0, none⟩) n cap ∧ hs = [Hp.one b (.cells cur e (cur.size, cur.size + 1))] ∧ n ≤ cap ∧ cap ≤ 9223372036854775807 ∧ cur.size = cap ∧ cur.toList.take n = cs
def OwnAtZ (e : TypeId) (v : Value) (n : Nat) (cs : List Value) (hs : List Hp) (b : Nat) : Prop :=
  cs.length = n ∧ ∃ cap cur, v = .slice (some ⟨b, 0, none⟩) n cap ∧ hs = [Hp.one b (.cells cur e (cur.size, cur.size + 1))] ∧ n ≤ cap ∧ cap ≤ 9223372036854775807 ∧ cur.size = cap ∧ cur.toList.take n = cs
theorem OwnZ.sl {e : TypeId} {v : Value} {n : Nat} {cs : List Value} {hs : List Hp} (H : OwnZ e v n cs hs) : Sl hs 1 v n cs := by
  obtain ⟨hl, b, cap, cur, rfl, rfl, h1, h2, h3, h4⟩ := H
  refine ⟨_, _, rfl, h1, h2, by omega, fun _ => ⟨b, 0, rfl, CellsAt.one ?_⟩⟩
  rw [List.drop_zero, hl]; exact h4
theorem OwnZ.one {e : TypeId} {v : Value} {n : Nat} {cs : List Value} {hs : List Hp} (h : OwnZ e v n cs hs) : v.oneCell' = true := h.sl.one
/-- one cell of the front block, written; whatever mark the block bears -/
theorem Has.set1f {E w : World} {ss : List (List Hp)} {b off : Nat} {c : Array Value} {U : TypeId} {f : Nat × Nat} {v : Value} (hlt : off < c.size) (H : Has E w ([Hp.one b (.cells c U f)] :: ss)) :
    Has E (w.setCell ⟨b, off, none⟩ v) ([Hp.one b (.cells (c.setIfInBounds off v) U f)] :: ss) := by
  have hwb : w.heap[b]? = some (.cells c U f) := H.at (h := Hp.one b (.cells c U f)) (by simp) (Hp.one_at _ _)
  refine Has0.write (an := [Hp.one b (.cells c U f)]) (an' := [Hp.one b (.cells (c.setIfInBounds off v) U f)]) (hs := ss.flatten) H rfl rfl rfl (by simp) ?_ ?_ ?_
  · intro k hk
    have hk := hk _ (List.mem_singleton.2 rfl)
    refine .inl fun h hh => ?_
    rw [List.mem_singleton.1 hh]
    unfold Hp.one at hk ⊢
    split at hk
    · cases hk
    · rw [if_neg (by assumption)]
  · intro h hh k o hk
    rw [List.mem_singleton.1 hh] at hk
    obtain ⟨rfl, rfl⟩ := Hp.one_some hk
    simp only [World.setCell, Array.getElem?_modify]
    simp [hwb]
  · intro k _ hk
    have hk := hk _ (List.mem_singleton.2 rfl)
    have : k ≠ b := by rintro rfl; rw [Hp.one_at] at hk; cases hk
    simp only [World.setCell, Array.getElem?_modify]
    rw [if_neg (by omega)]
theorem xor8 (c d : UInt8) : IntKind.wrap .u8 ((BitVec.ofInt 8 (c.toNat : Int) ^^^ BitVec.ofInt 8 (d.toNat : Int)).toNat : Int) = ((c ^^^ d).toNat : Int) := by
  have e : ∀ x : UInt8, BitVec.ofInt 8 (x.toNat : Int) = x.toBitVec := fun x => by rw [BitVec.ofInt_natCast]; simp
  rw [e, e, UInt8.toNat_xor, BitVec.toNat_xor]
  simp only [IntKind.wrap, IntKind.bits, IntKind.signed]
  simp
  have h1 := c.toNat_lt; have h2 := d.toNat_lt
  have := Nat.xor_lt_two_pow (n := 8) h1 h2
  omega
theorem shl8 (n : Nat) (h : n < 8) : IntKind.wrap .u8 (1 * 2 ^ (min ((n : Int)).toNat (IntKind.bits .u8))) = ((UInt8.ofNat (2 ^ n)).toNat : Int) := by
  have : ∀ k : Nat, k < 8 → IntKind.wrap .u8 (1 * 2 ^ (min ((k : Nat) : Int).toNat (IntKind.bits .u8))) = ((UInt8.ofNat (2 ^ k)).toNat : Int) := by decide
  exact this n h
section ops
variable {P : Program} {ρ : Operand → Value} {E w : World} {ss : List (List Hp)} {K : Value → World → Prop} {dst : Option Tmp} {T : TypeId} {pos : String} {after : Array Edge} {g : Option (Nat × Bool)}
theorem o_strb {s e t : TypeId} {x : Operand} {l : List UInt8} (hs : P.underlying s = some .string) (hd : P.underlying t = some (.slice e)) (he : P.underlying e = some (.int .u8)) (hx : ρ x = S l) (hl : l.length ≤ 9223372036854775807) (H : Has E w ss)
    (hK : ∀ v' hs' w', OwnZ e v' l.length (l.map bV) hs' → Has E w' (hs' :: ss) → K v' w') : OK P ⟨dst, .convert s t x, T, pos, after, g⟩ ρ w K := by
  have hr := run_bytes_of_string (P := P) w s t e ⟨l.toArray⟩ hs hd he
  have g1 := grownCap_ge w (ByteArray.size ⟨l.toArray⟩) 0 e
  have g2 := grownCap_le_maxLen w (ByteArray.size ⟨l.toArray⟩) 0 e (by rw [bytes_size, show maxLen = 9223372036854775807 from rfl]; exact hl)
  generalize grownCap w (ByteArray.size ⟨l.toArray⟩) 0 e = cap at hr g1 g2
  rw [bytes_size] at hr g1
  rw [show maxLen = 9223372036854775807 from rfl] at g2
  have c1 : (bytesRow ⟨l.toArray⟩ cap).size = cap := by simp [bytesRow, bytes_size]; omega
  have c2 : (bytesRow ⟨l.toArray⟩ cap).toList.take l.length = l.map bV := by simp [bytesRow]; intro a _; rfl
  generalize bytesRow ⟨l.toArray⟩ cap = C at hr c1 c2
  exact OK.val (run_v (by rw [hx]; exact hr)) (hK _ [Hp.one w.heap.size (.cells C e (C.size, C.size + 1))] _ ⟨by simp, w.heap.size, cap, C, rfl, rfl, g1, g2, c1, c2⟩ ((H.drew (w.drawn + 1)).alloc _))
theorem o_ownAddrZ {x y : Operand} {t e : TypeId} {hs : List Hp} {n by_ : Nat} {v z : Value} {cs : List Value} {k : IntKind} {i : Int} (ht : P.underlying t = some (.slice e)) (hi : TI P e z 1 by_)
    (hx : ρ x = v) (ho : OwnZ e v n cs hs) (hy : ρ y = .int k i) (h0 : 0 ≤ i) (h1 : i < n) (hK : ∀ b, OwnAtZ e v n cs hs b → K (.pointer (some ⟨b, i.toNat, none⟩)) w) :
    OK P ⟨dst, .indexAddr t x y, T, pos, after, g⟩ ρ w K := by
  obtain ⟨hl, b, cap, cur, rfl, rfl, h2, h3, h4, h5⟩ := ho
  refine OK.val (run_v (v := .pointer (some ⟨b, i.toNat, none⟩)) ?_) (hK b ⟨hl, cap, cur, rfl, rfl, h2, h3, h4, h5⟩)
  rw [hx, hy]
  simp [Instr.indexAt, asIntOf, run_underlying ht, h0, h1, hi.size, add_lit]
theorem o_ownStoreZ {α : Type} {f : α → Value} {l : List α} {a : α} {x y : Operand} {t e : TypeId} {hs : List Hp} {n i b by_ : Nat} {v z : Value} (hi : TI P t z 1 by_) (hx : ρ x = .pointer (some ⟨b, i, none⟩)) (hy : ρ y = f a)
    (hv : (f a).oneCell' = true) (ho : OwnAtZ e v n (l.map f) hs b) (hlt : i < n) (H : Has E w (hs :: ss)) (hK : ∀ hs' w', OwnZ e v (l.set i a).length ((l.set i a).map f) hs' → Has E w' (hs' :: ss) → K undef w') :
    OK P ⟨dst, .store t x y, T, pos, after, g⟩ ρ w K := by
  obtain ⟨hl, cap, cur, rfl, rfl, h2, h3, h4, h5⟩ := ho
  have hln : (l.set i a).length = n := by simpa using hl
  have hwb : w.heap[b]? = some (.cells cur e (cur.size, cur.size + 1)) := H.at (h := Hp.one b (.cells cur e (cur.size, cur.size + 1))) (by simp) (Hp.one_at _ _)
  have hlt2 : i < cur.size := by omega
  have hcell : w.cell? ⟨b, i, none⟩ = some cur[i] := by rw [cell_of_row w b i cur e _ hwb]; simp [hlt2]
  have hfz : w.frozen? ⟨b, i, none⟩ = false := by simp [World.frozen?, hwb]; omega
  have hcl : (f a).cells = #[f a] := by cases h : f a <;> first | rfl | (rw [h] at hv; simp [Value.oneCell'] at hv)
  refine OK.skip (w' := w.setCell ⟨b, i, none⟩ (f a)) (run_u ?_) (hK [Hp.one b (.cells (cur.setIfInBounds i (f a)) e (cur.size, cur.size + 1))] _ ?_ (H.set1f hlt2))
  · rw [hx, hy]
    simp only [Instr.storeAt, Instr.sureAddr, Sem.run_bind, Sem.run_pure, Result.andThen_ok, storeVar, hi.size, hcl]
    simp [storeCells, add_lit, run_store P w ⟨b, i, none⟩ (f a) .plain hv, hcell, hfz]
  · rw [hln]
    refine ⟨by simpa using hl, b, cap, _, rfl, by rw [Array.size_setIfInBounds], h2, h3, by simpa using h4, ?_⟩
    rw [Array.toList_setIfInBounds, List.take_set, h5, List.map_set]
end ops
end Go.Q
namespace Go.Q
def bit1 (x : Bool) : BitVec 32 := if x then 1#32 else 0#32
def feed (r : BitVec 32) : List Bool → BitVec 32
  | [] => r
  | x :: X => feed (cb (r ^^^ bit1 x)) X
def word : List Bool → BitVec 32
  | [] => 0#32
  | x :: X => bit1 x ^^^ (word X <<< 1)
theorem feed_append : ∀ (A B : List Bool) (r : BitVec 32), feed r (A ++ B) = feed (feed r A) B
  | [], _, _ => rfl
  | x :: A, B, r => by rw [List.cons_append, feed, feed, feed_append A B]
theorem bit1_get (x : Bool) (i : Nat) : (bit1 x).getLsbD i = (decide (i = 0) && x) := by
  cases x
  · simp [bit1]
  · show (1#32).getLsbD i = _
    rw [BitVec.getLsbD_one]; simp
theorem word_get : ∀ (X : List Bool) (i : Nat), i < 32 → (word X).getLsbD i = X.getD i false
  | [], i, _ => by simp [word]
  | x :: X, 0, _ => by rw [word, BitVec.getLsbD_xor, bit1_get, BitVec.getLsbD_shiftLeft]; simp
  | x :: X, i + 1, h => by
    rw [word, BitVec.getLsbD_xor, bit1_get, BitVec.getLsbD_shiftLeft]
    have := word_get X i (by omega)
    simp [this]
    omega
theorem shl_shr {x : BitVec 32} (h : x.getLsbD 31 = false) : (x <<< 1) >>> 1 = x := by
  apply BitVec.eq_of_getLsbD_eq
  intro i hi
  rw [BitVec.getLsbD_ushiftRight, BitVec.getLsbD_shiftLeft]
  by_cases g : i = 31
  · subst g; rw [h]; simp
  · have e : 1 + i - 1 = i := by omega
    rw [e, decide_eq_true (show 1 + i < 32 by omega)]; simp
theorem cb_shl {x : BitVec 32} (h : x.getLsbD 31 = false) : cb (x <<< 1) = x := by
  rw [cb_even (by rw [BitVec.getLsbD_shiftLeft]; simp), shl_shr h]
theorem feed_word : ∀ (X : List Bool) (r : BitVec 32), X.length ≤ 32 → feed r X = cbs X.length (r ^^^ word X)
  | [], r, _ => by show r = r ^^^ 0#32; rw [BitVec.xor_zero]
  | x :: X, r, h => by
    have hl : X.length ≤ 31 := by simpa using h
    have h0 : (word X).getLsbD 31 = false := by
      rw [word_get X 31 (by omega), List.getD_eq_getElem?_getD, List.getElem?_eq_none hl]; rfl
    rw [feed, feed_word X _ (by omega), List.length_cons, cbs, word, ← BitVec.xor_assoc, cb_xor (r ^^^ bit1 x), cb_shl h0]
theorem cbs_inj {n : Nat} {a b : BitVec 32} (h : cbs n a = cbs n b) : a = b := by
  have h1 : cbs n (a ^^^ b) = 0#32 := by rw [cbs_xor, h, BitVec.xor_self]
  have h2 := cbs_inj0 n h1
  have h3 : a ^^^ b ^^^ b = b := by rw [h2, BitVec.zero_xor]
  rw [BitVec.xor_assoc, BitVec.xor_self, BitVec.xor_zero] at h3
  exact h3
theorem xor_can {a b c : BitVec 32} (h : a ^^^ b = a ^^^ c) : b = c := by
  have := congrArg (fun x => a ^^^ x) h
  simpa [← BitVec.xor_assoc, BitVec.xor_self] using this
theorem word_inj {X Y : List Bool} (hl : X.length = Y.length) (h32 : X.length ≤ 32) (h : word X = word Y) : X = Y := by
  refine List.ext_getElem hl fun i h1 h2 => ?_
  have a := word_get X i (by omega)
  have b := word_get Y i (by omega)
  rw [h, b] at a
  simpa [List.getD_eq_getElem?_getD, h1, h2] using a.symm
theorem feed_inj : ∀ (Q : List Bool) {r r' : BitVec 32}, feed r Q = feed r' Q → r = r'
  | [], _, _, h => h
  | x :: Q, r, r', h => by
    have h1 := feed_inj Q h
    have h2 : r ^^^ bit1 x = r' ^^^ bit1 x := cbs_inj (n := 1) h1
    rw [BitVec.xor_comm r, BitVec.xor_comm r'] at h2
    exact xor_can h2
theorem burst {A B : List Bool} {a : Nat} (hl : A.length = B.length) (hw : ∀ p, p < a ∨ a + 32 ≤ p → A[p]? = B[p]?) (r : BitVec 32) (h : feed r A = feed r B) : A = B := by
  have e1 : A.take a = B.take a := List.ext_getElem? fun i => by
    rw [List.getElem?_take, List.getElem?_take]
    split
    · exact hw i (.inl (by assumption))
    · rfl
  have e3 : A.drop (a + 32) = B.drop (a + 32) := List.ext_getElem? fun i => by
    rw [List.getElem?_drop, List.getElem?_drop]; exact hw _ (.inr (by omega))
  have sp : ∀ X : List Bool, X = X.take a ++ ((X.drop a).take 32 ++ X.drop (a + 32)) := fun X => by
    rw [← List.drop_drop, List.take_append_drop, List.take_append_drop]
  rw [sp A, sp B, e1, e3, feed_append, feed_append, feed_append, feed_append] at h
  have h2 := feed_inj _ h
  have lA : ((A.drop a).take 32).length ≤ 32 := by rw [List.length_take]; omega
  have lB : ((B.drop a).take 32).length ≤ 32 := by rw [List.length_take]; omega
  have ll : ((A.drop a).take 32).length = ((B.drop a).take 32).length := by simp [hl]
  rw [feed_word _ _ lA, feed_word _ _ lB, ll] at h2
  have h3 := word_inj ll lA (xor_can (cbs_inj h2))
  rw [sp A, sp B, e1, e3, h3]
/-- the bits of a byte, the lowest first; of bytes -/
def bits8 (b : UInt8) : List Bool := (List.range 8).map b.toNat.testBit
def bitsOf (s : List UInt8) : List Bool := s.flatMap bits8
theorem bits8_len (b : UInt8) : (bits8 b).length = 8 := rfl
theorem bits_len (s : List UInt8) : (bitsOf s).length = s.length * 8 := by
  induction s with
  | nil => rfl
  | cons b s ih => unfold bitsOf at *; rw [List.flatMap_cons, List.length_append, ih, bits8_len, List.length_cons]; omega
theorem bits8_get (b : UInt8) (i : Nat) : (bits8 b)[i]? = if i < 8 then some (b.toNat.testBit i) else none := by
  by_cases h : i < 8
  · rw [if_pos h]; unfold bits8; rw [List.getElem?_map, List.getElem?_range h]; rfl
  · rw [if_neg h]; exact List.getElem?_eq_none (by rw [bits8_len]; omega)
theorem bits_get : ∀ (s : List UInt8) (p : Nat), (bitsOf s)[p]? = (s[p / 8]?).map fun b => b.toNat.testBit (p % 8)
  | [], p => rfl
  | b :: s, p => by
    unfold bitsOf
    rw [List.flatMap_cons]
    by_cases h : p < 8
    · rw [List.getElem?_append_left (by rw [bits8_len]; exact h), bits8_get, if_pos h, Nat.div_eq_of_lt h, Nat.mod_eq_of_lt h]; rfl
    · rw [List.getElem?_append_right (by rw [bits8_len]; omega), bits8_len]
      have := bits_get s (p - 8)
      unfold bitsOf at this
      rw [this, show p / 8 = (p - 8) / 8 + 1 by omega, List.getElem?_cons_succ, show (p - 8) % 8 = p % 8 by omega]
theorem byte_ext {a b : UInt8} (h : ∀ i, i < 8 → a.toNat.testBit i = b.toNat.testBit i) : a = b := by
  apply UInt8.toNat_inj.1
  apply Nat.eq_of_testBit_eq
  intro i
  by_cases hi : i < 8
  · exact h i hi
  · have ha : a.toNat < 2 ^ i := Nat.lt_of_lt_of_le a.toNat_lt (Nat.pow_le_pow_right (by decide) (by omega))
    have hb : b.toNat < 2 ^ i := Nat.lt_of_lt_of_le b.toNat_lt (Nat.pow_le_pow_right (by decide) (by omega))
    rw [Nat.testBit_lt_two_pow ha, Nat.testBit_lt_two_pow hb]
theorem bits_inj {s t : List UInt8} (hl : s.length = t.length) (h : bitsOf s = bitsOf t) : s = t := by
  refine List.ext_getElem hl fun i h1 h2 => byte_ext fun j hj => ?_
  have a := bits_get s (i * 8 + j)
  have b := bits_get t (i * 8 + j)
  rw [h, b] at a
  rw [show (i * 8 + j) / 8 = i by omega, show (i * 8 + j) % 8 = j by omega, List.getElem?_eq_getElem h1, List.getElem?_eq_getElem h2] at a
  simpa using a.symm
theorem word_bits8 (b : UInt8) : word (bits8 b) = b32 b := by
  apply BitVec.eq_of_getLsbD_eq
  intro i hi
  rw [word_get _ i hi, List.getD_eq_getElem?_getD, bits8_get]
  unfold b32
  rw [BitVec.getLsbD_ofNat, decide_eq_true hi, Bool.true_and]
  split
  · rfl
  · have hb : b.toNat < 2 ^ i := Nat.lt_of_lt_of_le b.toNat_lt (Nat.pow_le_pow_right (by decide) (by omega))
    rw [Nat.testBit_lt_two_pow hb]; rfl
theorem crc_feed : ∀ (s : List UInt8) (r : BitVec 32), crcF r s = feed r (bitsOf s)
  | [], _ => rfl
  | b :: s, r => by
    have e : bitsOf (b :: s) = bits8 b ++ bitsOf s := by unfold bitsOf; rw [List.flatMap_cons]
    rw [e, feed_append, feed_word (bits8 b) _ (by rw [bits8_len]; omega), bits8_len, word_bits8, ← crc_feed s]
    rfl
/-- A burst turns the sum where it turns something. -/
theorem crc_burst {s t : List UInt8} {a : Nat} (hl : t.length = s.length) (hw : ∀ p, p < a ∨ a + 32 ≤ p → (bitsOf t)[p]? = (bitsOf s)[p]?) (r : BitVec 32) (h : crcF r t = crcF r s) : t = s := by
  rw [crc_feed, crc_feed] at h
  exact bits_inj hl (burst (by rw [bits_len, bits_len, hl]) hw r h)
theorem not_inj {a b : BitVec 32} (h : ~~~ a = ~~~ b) : a = b := by
  have := congrArg (fun x => ~~~ x) h
  simpa using this
theorem sum_burst {s t : List UInt8} {a : Nat} (hl : t.length = s.length) (hw : ∀ p, p < a ∨ a + 32 ≤ p → (bitsOf t)[p]? = (bitsOf s)[p]?) : decide (t = s) = decide (((crcS t).toNat : Int) = ((crcS s).toNat : Int)) := by
  by_cases h : t = s
  · subst h; simp
  · rw [decide_eq_false h]
    symm
    apply decide_eq_false
    intro g
    have g2 : crcS t = crcS s := BitVec.eq_of_toNat_eq (by omega)
    exact h (crc_burst hl hw _ (not_inj g2))
/-- four bytes that are a sum -/
theorem lo8_get (x : BitVec 32) (i : Nat) (h : i < 8) : (lo8 x).toNat.testBit i = x.getLsbD i := by
  unfold lo8
  rw [UInt8.toNat_ofNat', Nat.testBit_mod_two_pow, decide_eq_true h, Bool.true_and]; rfl
theorem bits_laid (x : BitVec 32) : bitsOf (laidS x) = (List.range 32).map x.getLsbD := by
  refine List.ext_getElem? fun p => ?_
  rw [bits_get]
  by_cases h : p < 32
  · rw [List.getElem?_map, List.getElem?_range h]
    have h4 : p / 8 < 4 := by omega
    have key : ∀ k, k < 4 → (laidS x)[k]? = some (lo8 (x >>> (8 * k))) := by
      intro k hk
      rcases k with _ | _ | _ | _ | k
      · simp [laidS]
      · rfl
      · rfl
      · rfl
      · omega
    rw [key _ h4, Option.map_some, Option.map_some, lo8_get _ _ (by omega), BitVec.getLsbD_ushiftRight, show 8 * (p / 8) + p % 8 = p by omega]
  · rw [List.getElem?_eq_none (by rw [laidS_len]; omega), List.getElem?_eq_none (by simp; omega)]; rfl
theorem word_laid (x : BitVec 32) : word (bitsOf (laidS x)) = x := by
  apply BitVec.eq_of_getLsbD_eq
  intro i hi
  rw [word_get _ i hi, bits_laid, List.getD_eq_getElem?_getD, List.getElem?_map, List.getElem?_range hi]; rfl
theorem crc_four {v : List UInt8} (h : v.length = 4) (r : BitVec 32) : crcF r v = cbs 32 (r ^^^ word (bitsOf v)) := by
  have hl : (bitsOf v).length = 32 := by rw [bits_len, h]
  rw [crc_feed, feed_word _ _ (by omega), hl]
theorem laid_word {v : List UInt8} (h : v.length = 4) (x : BitVec 32) : laidS x = v ↔ word (bitsOf v) = x := by
  constructor
  · intro e; rw [← e, word_laid]
  · intro e
    refine bits_inj (by rw [laidS_len, h]) ?_
    refine word_inj (by rw [bits_len, bits_len, laidS_len, h]) (by rw [bits_len, laidS_len]; omega) ?_
    rw [word_laid, e]
/-- what is left of a sealed text -/
theorem seal_state {u v : List UInt8} (h : v.length = 4) : laidS (crcS u) = v ↔ crcF (0xffffffff#32) (u ++ v) = cbs 32 (0xffffffff#32) := by
  rw [laid_word h, crcF_append, crc_four h]
  unfold crcS
  constructor
  · intro e
    rw [e]; congr 1
    generalize crcF (0xffffffff#32) u = r
    apply BitVec.eq_of_getLsbD_eq
    intro i hi
    have : ∀ j, j < 32 → (0xffffffff#32).getLsbD j = true := by decide
    rw [this i hi, BitVec.getLsbD_xor, BitVec.getLsbD_not, decide_eq_true hi]
    cases r.getLsbD i <;> rfl
  · intro e
    have e2 := cbs_inj e
    generalize crcF (0xffffffff#32) u = r at e2 ⊢
    apply BitVec.eq_of_getLsbD_eq
    intro i hi
    have e3 := congrArg (fun x : BitVec 32 => x.getLsbD i) e2
    have : ∀ j, j < 32 → (0xffffffff#32).getLsbD j = true := by decide
    simp only [BitVec.getLsbD_xor, this i hi] at e3
    rw [BitVec.getLsbD_not, decide_eq_true hi]
    revert e3
    cases r.getLsbD i <;> cases (word (bitsOf v)).getLsbD i <;> simp
theorem open_state {g : List UInt8} (h : 4 ≤ g.length) : (openS g).2 = true ↔ crcF (0xffffffff#32) g = cbs 32 (0xffffffff#32) := by
  have hv : (g.drop ((g.length : Int) - 4).toNat).length = 4 := by rw [List.length_drop]; omega
  have hs := seal_state (u := g.take ((g.length : Int) - 4).toNat) hv
  rw [List.take_append_drop] at hs
  rw [← hs]
  unfold openS
  split
  · rename_i h2; exact ⟨fun _ => h2.2, fun _ => rfl⟩
  · rename_i h2; exact ⟨fun e => (by cases e), fun e => absurd ⟨h, e⟩ h2⟩
theorem open_burst {f g : List UInt8} {a : Nat} (hf : (openS f).2 = true) (h4 : 4 ≤ f.length) (hl : g.length = f.length) (hw : ∀ p, p < a ∨ a + 32 ≤ p → (bitsOf g)[p]? = (bitsOf f)[p]?) : (openS g).2 = decide (g = f) := by
  by_cases h : g = f
  · subst h; rw [hf]; simp
  · rw [decide_eq_false h]
    cases e : (openS g).2 with
    | false => rfl
    | true =>
      have h1 := (open_state (by omega)).1 e
      rw [← (open_state h4).1 hf] at h1
      exact absurd (crc_burst hl hw _ h1) h
/-- one bit of a byte turned -/
def pow8 (n : Nat) : UInt8 := UInt8.ofNat (2 ^ n)
theorem shl8z {z : Int} (h0 : 0 ≤ z) (h : z < 8) : IntKind.wrap .u8 (1 * 2 ^ (min z.toNat (IntKind.bits .u8))) = ((pow8 z.toNat).toNat : Int) := by
  obtain ⟨n, rfl⟩ : ∃ n : Nat, z = n := ⟨z.toNat, by omega⟩
  exact shl8 n (by omega)
theorem turn_step {s lc : List UInt8} {a q : Nat} {c : UInt8} (hl : lc.length = s.length) (hw : ∀ p, p < a ∨ a + 32 ≤ p → (bitsOf lc)[p]? = (bitsOf s)[p]?) (hq : a ≤ q ∧ q < a + 32) (hc : lc[q / 8]? = some c) :
    (lc.set (q / 8) (c ^^^ pow8 (q % 8))).length = s.length ∧ ∀ p, p < a ∨ a + 32 ≤ p → (bitsOf (lc.set (q / 8) (c ^^^ pow8 (q % 8))))[p]? = (bitsOf s)[p]? := by
  refine ⟨by rw [List.length_set, hl], fun p hp => ?_⟩
  rw [← hw p hp, bits_get, bits_get]
  by_cases h : p / 8 = q / 8
  · have hlt := (List.getElem?_eq_some_iff.1 hc).1
    rw [h, List.getElem?_set_self hlt, hc, Option.map_some, Option.map_some]
    congr 1
    have hm : p % 8 ≠ q % 8 := by omega
    rw [UInt8.toNat_xor, Nat.testBit_xor]
    have : (pow8 (q % 8)).toNat.testBit (p % 8) = false := by
      unfold pow8
      have h2 : 2 ^ (q % 8) < 256 := Nat.lt_of_le_of_lt (Nat.pow_le_pow_right (by decide) (show q % 8 ≤ 7 by omega)) (by decide)
      rw [UInt8.toNat_ofNat', Nat.mod_eq_of_lt h2, Nat.testBit_two_pow]
      exact decide_eq_false (by omega)
    rw [this, Bool.xor_false]
  · rw [List.getElem?_set_ne (fun e => h e.symm)]
/-- the lists are alike but for a window of 32 bits -/
def Win (a : Nat) (t s : List UInt8) : Prop := t.length = s.length ∧ ∀ p, p < a ∨ a + 32 ≤ p → (bitsOf t)[p]? = (bitsOf s)[p]?
theorem Win.refl (a : Nat) (s : List UInt8) : Win a s s := ⟨rfl, fun _ _ => rfl⟩
theorem Win.step {a i : Nat} {t s : List UInt8} {c : UInt8} (h : Win a t s) (hi : i < 32) (hc : t[(((a : Int) + (i : Int)) / 8).toNat]? = some c) :
    Win a (t.set (((a : Int) + (i : Int)) / 8).toNat (c ^^^ pow8 (((a : Int) + (i : Int)) % 8).toNat)) s := by
  have e1 : (((a : Int) + (i : Int)) / 8).toNat = (a + i) / 8 := by omega
  have e2 : (((a : Int) + (i : Int)) % 8).toNat = (a + i) % 8 := by omega
  rw [e1] at hc ⊢
  rw [e2]
  exact turn_step h.1 h.2 (by omega) hc
end Go.Q
namespace Go.Q
structure Fr where
  ep : Int
  pl : Int
  gsn : Int
  data : List UInt8
def frC (f : Fr) : List Value := [iV f.ep, iV f.pl, iV f.gsn, S f.data]
theorem frC_len (f : Fr) : (frC f).length = 4 := rfl
theorem one_fr (l : List Fr) : ∀ u ∈ l.flatMap frC, u.oneCell' = true := one_flat (fun f u hu => by
  simp only [frC, List.mem_cons, List.not_mem_nil, or_false] at hu
  rcases hu with rfl | rfl | rfl | rfl <;> rfl) l
def rightS (f : Fr) : Bool := decide (0 ≤ f.ep ∧ f.ep ≤ 2147483647 ∧ 0 ≤ f.pl ∧ f.pl ≤ 4611686018427387903 ∧ 0 ≤ f.gsn ∧ f.gsn ≤ 4611686018427387903 ∧ f.data.length ≤ 200)
theorem rightS_of {f : Fr} (h : rightS f = true) : 0 ≤ f.ep ∧ f.ep ≤ 2147483647 ∧ 0 ≤ f.pl ∧ f.pl ≤ 4611686018427387903 ∧ 0 ≤ f.gsn ∧ f.gsn ≤ 4611686018427387903 ∧ f.data.length ≤ 200 := of_decide_eq_true h
def headS (f : Fr) : List UInt8 := beFrom (f.data.length : Int) 1 ++ (beFrom f.ep 4 ++ (beFrom f.pl 8 ++ beFrom f.gsn 8))
theorem headS_len (f : Fr) : (headS f).length = 21 := by simp only [headS, List.length_append, beFrom_length]
def makeS (f : Fr) : List UInt8 := if rightS f = true then sealS (headS f ++ f.data) else []
theorem makeS_yes {f : Fr} (h : rightS f = true) : makeS f = sealS (headS f ++ f.data) := by rw [makeS, if_pos h]
theorem makeS_no {f : Fr} (h : rightS f = false) : makeS f = [] := by rw [makeS, if_neg (by rw [h]; decide)]
theorem makeS_len {f : Fr} (h : rightS f = true) : (makeS f).length = f.data.length + 25 := by
  rw [makeS_yes h, sealS, List.length_append, List.length_append, headS_len, laidS_len]; omega
theorem fits_lit {n : Int} {m : Nat} {b : Nat} (h0 : 0 ≤ n) (h1 : n < (b : Int)) (h8 : m ≤ 8) (hb : b ≤ 256 ^ m) (h63 : n ≤ 9223372036854775807) : fitsS n m = true := by
  obtain ⟨k, rfl⟩ : ∃ k : Nat, n = k := ⟨n.toNat, by omega⟩
  rw [fits_iff h8 h63]
  exact decide_eq_true (by omega)
theorem put_flat {f : Fr} (h : rightS f = true) : [putS 1 [((f.data.length : Nat) : Int)], putS 4 [f.ep], putS 8 [f.pl, f.gsn], f.data].flatten = headS f ++ f.data := by
  obtain ⟨h1, h2, h3, h4, h5, h6, h7⟩ := rightS_of h
  have f1 : fitsS ((f.data.length : Nat) : Int) 1 = true := fits_lit (b := 256) (by omega) (by omega) (by decide) (by decide) (by omega)
  have f2 : fitsS f.ep 4 = true := fits_lit (b := 2147483648) h1 (by omega) (by decide) (by decide) (by omega)
  have f3 : fitsS f.pl 8 = true := fits_lit (b := 4611686018427387904) h3 (by omega) (by decide) (by decide) (by omega)
  have f4 : fitsS f.gsn 8 = true := fits_lit (b := 4611686018427387904) h5 (by omega) (by decide) (by decide) (by omega)
  rw [putS_yes (by decide) (by decide) (by simpa using f1), putS_yes (by decide) (by decide) (by simpa using f2), putS_yes (by decide) (by decide) (by simpa using ⟨f3, f4⟩)]
  simp [headS]
theorem fits_head {f : Fr} (h : rightS f = true) : fitsS ((f.data.length : Nat) : Int) 1 = true ∧ fitsS f.ep 4 = true ∧ fitsS f.pl 8 = true ∧ fitsS f.gsn 8 = true := by
  obtain ⟨h1, h2, h3, h4, h5, h6, h7⟩ := rightS_of h
  exact ⟨fits_lit (b := 256) (by omega) (by omega) (by decide) (by decide) (by omega), fits_lit (b := 2147483648) h1 (by omega) (by decide) (by decide) (by omega),
    fits_lit (b := 4611686018427387904) h3 (by omega) (by decide) (by decide) (by omega), fits_lit (b := 4611686018427387904) h5 (by omega) (by decide) (by decide) (by omega)⟩
theorem ref_flat {f : Fr} (h : rightS f = true) {a b c d : List UInt8} (ha : fitsS ((f.data.length : Nat) : Int) 1 = true → a = beFrom ((f.data.length : Nat) : Int) 1) (hb : fitsS f.ep 4 = true → b = beFrom f.ep 4)
    (hc : fitsS f.pl 8 = true → c = beFrom f.pl 8) (hd : fitsS f.gsn 8 = true → d = beFrom f.gsn 8) : a ++ b ++ c ++ d ++ f.data = headS f ++ f.data := by
  obtain ⟨h1, h2, h3, h4⟩ := fits_head h
  rw [ha h1, hb h2, hc h3, hd h4]; simp [headS]
end Go.Q
