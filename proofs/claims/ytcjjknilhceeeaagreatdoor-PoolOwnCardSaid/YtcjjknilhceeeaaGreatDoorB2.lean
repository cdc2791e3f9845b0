/-
  Parts of a walk: what functions of the program compute, each told by a theorem (Qvp1, QPage2, Qvp6, Qvp7, QCrc, QU, QW, QBurst, QM, QFrame, QFrame2, QPageB, QPageL, Qvp13, QZ, QvSh1, Qvd1, Qvd2, Qvd3, QvSh3, Qvd4).
-/
import Derived.Test.YtcjjknilhceeeaaGreatDoorB1
import Derived.Laws.IdiomStrings
import Derived.Below
import Derived.Shelf.Strings.OnBuilder
import Derived.Shelf.Strings.Repeat
import Derived.Shelf.Bits.Mul64
import Derived.Shelf.SlIterI.Sorted
import Derived.Shelf.SortM.Plain
import Derived.Shelf.SortM.SortNone
import Derived.Maps.Range
set_option linter.unusedVariables false
set_option linter.unusedSimpArgs false
set_option linter.unnecessarySimpa false
namespace Go.Q
open Go.Proofs
set_option linter.unusedVariables false
set_option maxRecDepth 100000
attribute [local irreducible] wpList OK Code.wp
set_option maxHeartbeats 4000000 in
theorem cells_c {E w : World} {R : List Hp} {v_l : Value} {l : List Cel}  (hH : Has E w [R]) (h_l : Sl R 2 v_l l.length (l.flatMap ceC)) :
    Calls Tryz.prog 113 #[v_l] w fun e w' => e = .returned (.bool (cellsR l)) ∧ Has E w' [R] := by
  have hn_ := h_l.le
  refine c_enter (args := [v_l]) Tryz.func113 rfl Tryz.ntmps113 (by simp) ?_
  refine wp_seq_k fun K1 hK1 => ?_
  refine c_region ?_
  refine s_op (o_assign (v := (.bool false)) rfl ?_)
  refine s_nil ?_
  refine t_norm (hK1 _ _ ?_)
  refine wp_seq_k fun K2 hK2 => ?_
  refine wp_seq_k fun K3 hK3 => ?_
  refine c_region ?_
  refine s_op (o_move (v := v_l) rfl ?_)
  refine s_op (o_lenS Tryz.underlying34 rfl h_l ?_)
  refine s_op (o_move (v := (.int .i64 0)) rfl ?_)
  refine s_nil ?_
  refine t_norm (hK3 _ _ ?_)
  refine wp_block ?_
  let I5 : Nat → (Nat → Value) → World → Prop := fun n__ r__ w__ => ∃ (k : Nat), n__ = l.length - k ∧ Has E w__ [R] ∧ (k ≤ l.length) ∧ ((l.take k).all celOk = true) ∧ (Rises (l.take k)) ∧ r__ 0 = v_l ∧ r__ 5 = v_l ∧ r__ 6 = (.int .i64 ((l.length : Nat) : Int)) ∧ r__ 7 = (.int .i64 (k : Int))
  refine c_loop I5 _ ⟨0, rfl, hH, Nat.zero_le _, rfl, List.Pairwise.nil, rfl, rfl, rfl, rfl⟩ ?_
  rintro n_ r8 w6 ⟨k, rfl, hH7, hk, ha, hr, e4_0, e4_5, e4_6, e4_7⟩
  refine wp_seq_k fun K9 hK9 => ?_
  refine c_region ?_
  refine s_op (o_lss (a := (k : Int)) (b := ((l.length : Nat) : Int)) e4_7 e4_6 ?_)
  refine s_nil ?_
  refine t_norm (hK9 _ _ ?_)
  refine wp_seq_k fun K10 hK10 => ?_
  refine c_cond rfl (fun h11 => ?_) (fun h11 => ?_)
  · -- (k : Int) < ((l.length : Nat) : Int)
    refine wp_skip ?_
    refine t_norm (hK10 _ _ ?_)
    refine wp_seq_k fun K12 hK12 => ?_
    refine wp_block ?_
    refine wp_seq_k fun K13 hK13 => ?_
    refine c_region ?_
    refine s_op (o_move (v := (.int .i64 (k : Int))) e4_7 ?_)
    obtain ⟨x17, hx18⟩ : ∃ x_, l[((k : Int)).toNat]? = some x_ := get_some (by omega)
    refine s_op (o_indexF ceC_len Tryz.underlying34 ti70 e4_5 h_l rfl e4_7 (by omega) hx18 fun b14 o15 hc16 => ?_)
    refine s_op (o_loadN (cs := [(S x17.1), (S x17.2)]) Tryz.underlying70 rfl ti70 rfl hH7 (seg_sub 0 rfl) hc16 ?_)
    refine s_op (o_alloc (cs := #[(S ([] : List UInt8)), (S ([] : List UInt8))]) ti70 rfl hH7 fun b19 w20 hH21 => ?_)
    refine s_op (o_assign (v := (.int .i64 (k : Int))) rfl ?_)
    refine s_eff (o_storeN (vs := [(S x17.1), (S x17.2)]) (c' := #[(S x17.1), (S x17.2)]) ti70 rfl rfl rfl rfl (by intro u hu; simp only [List.mem_cons, List.not_mem_nil, or_false] at hu; rcases hu with rfl | rfl <;> first | rfl) (by simp) (by kernel_rfl) (hH21.front 0 rfl) fun w22 hH23 => ?_)
    refine s_nil ?_
    refine t_norm (hK13 _ _ ?_)
    refine wp_seq_k fun K24 hK24 => ?_
    refine Rest.region mixed (by kernel_rfl) ?_
    have hH25 : Has E { w22 with drawn := w22.drawn + 1 } [[Hp.one b19 (.cells #[(S x17.1), (S x17.2)] 70 (0, 0))], R] := Has0.drew hH23 _
    refine r_op 0 rfl (by kernel_rfl) (o_fieldAddr (k := 0) (fun _ => by kernel_rfl) rfl ?_)
    refine r_op 1 rfl (by kernel_rfl) (o_load1 (v := (S x17.1)) Tryz.underlying9 rfl rfl hH25 (seg_sub 0 rfl) (CellsAt.one rfl) ?_)
    refine r_op 2 rfl (by kernel_rfl) (o_buildSlice (ps := #[(0, (S x17.1))]) (cells := #[(S x17.1)]) Tryz.underlying102 ti9 (by decide) (parts1 rfl) (by kernel_rfl) hH25 fun b26 w27 hH28 => ?_)
    refine r_op 3 rfl (by kernel_rfl) (o_callf (vs := #[(.slice (some ⟨b26, 0, none⟩) 1 1)]) ca137 rfl (args1 rfl) (key_c (l := [x17.1]) hH28.all ((sl_lit (f := sV) (l := [x17.1]) rfl rfl (by simp)).mono (seg_sub 0 rfl))) ?_)
    rintro _ w31 ⟨rfl, hX29⟩
    refine ⟨_, rfl, ?_⟩
    have hH30 := hX29.of_all
    refine r_op 4 rfl (by kernel_rfl) (o_not rfl ?_)
    refine r_op 5 rfl (by kernel_rfl) (o_move (v := (.bool (!([x17.1].all keyR)))) rfl ?_)
    rcases Bool.eq_false_or_eq_true (!([x17.1].all keyR)) with h32 | h32
    · -- !([x17.1].all keyR)
      refine r_off (b' := true) 6 rfl (by kernel_rfl) 17 rfl (congrArg Value.bool h32) rfl ?_
      refine r_off (b' := true) 7 rfl (by kernel_rfl) 17 rfl (congrArg Value.bool h32) rfl ?_
      refine r_off (b' := true) 8 rfl (by kernel_rfl) 17 rfl (congrArg Value.bool h32) rfl ?_
      refine r_off (b' := true) 9 rfl (by kernel_rfl) 17 rfl (congrArg Value.bool h32) rfl ?_
      refine r_off (b' := true) 10 rfl (by kernel_rfl) 17 rfl (congrArg Value.bool h32) rfl ?_
      refine r_off (b' := true) 11 rfl (by kernel_rfl) 17 rfl (congrArg Value.bool h32) rfl ?_
      refine r_op 12 rfl (by kernel_rfl) (o_pick_t (u := (.bool true)) ((rfl : _ = _).trans (congrArg Value.bool h32)) rfl ?_)
      refine r_op 13 rfl (by kernel_rfl) (o_move (v := (.bool true)) rfl ?_)
      refine r_off (b' := true) 14 rfl (by kernel_rfl) 25 rfl rfl rfl ?_
      refine r_off (b' := true) 15 rfl (by kernel_rfl) 25 rfl rfl rfl ?_
      refine r_off (b' := true) 16 rfl (by kernel_rfl) 25 rfl rfl rfl ?_
      refine Rest.phaseA (fun w_ => Has E w_ []) 17 25 8 rfl (by decide) (by kernel_rfl) ?_
      refine a_offu 17 rfl (by kernel_rfl) 28 rfl rfl ?_
      refine a_offu 18 rfl (by kernel_rfl) 28 rfl rfl ?_
      refine a_offu 19 rfl (by kernel_rfl) 28 rfl rfl ?_
      refine a_offu 20 rfl (by kernel_rfl) 28 rfl rfl ?_
      refine a_offu 21 rfl (by kernel_rfl) 28 rfl rfl ?_
      refine a_offu 22 rfl (by kernel_rfl) 28 rfl rfl ?_
      refine a_offu 23 rfl (by kernel_rfl) 28 rfl rfl ?_
      refine a_offu 24 rfl (by kernel_rfl) 28 rfl rfl ?_
      have hH33 : Has E w31 [] := hH30.first 0 rfl
      refine a_done (by kernel_rfl) hH33 ?_
      refine r_offu 25 rfl (by kernel_rfl) 28 rfl rfl ?_
      refine r_off (b' := true) 26 rfl (by kernel_rfl) 25 rfl rfl rfl ?_
      refine r_op 27 rfl (by kernel_rfl) (o_pick_t (u := (.bool true)) rfl rfl ?_)
      refine Rest.done (by kernel_rfl) ?_
      refine t_norm (hK24 _ _ ?_)
      refine c_true rfl rfl ?_
      refine wp_seq_k fun K34 hK34 => ?_
      refine c_region ?_
      refine s_op (o_assign (v := (.bool false)) rfl ?_)
      refine s_nil ?_
      refine t_norm (hK34 _ _ ?_)
      refine wp_ret ?_
      refine b_ret (t_ret (t_ret (b_ret (t_ret (c_ret1 Tryz.results113  (v := (.bool false)) rfl ?_)))))
      have q35 : (cellsR l) = false := by exact cells_no1 hx18 (by (have h1_ := h32; simp only [List.all_cons, List.all_nil, Bool.and_true] at h1_; simp only [celOk]; rw [show keyR x17.1 = false by simpa using h1_]; rfl))
      have hH36 : Has E w31 [R] := (hH30.front 2 rfl).first 1 rfl
      exact ⟨by rw [q35], hH36⟩
    · -- not: !([x17.1].all keyR)
      refine r_on 6 rfl (by kernel_rfl) 17 rfl (congrArg Value.bool h32) (o_fieldAddr (k := 1) (fun _ => by kernel_rfl) rfl ?_)
      refine r_on 7 rfl (by kernel_rfl) 17 rfl (congrArg Value.bool h32) (o_load1 (v := (S x17.2)) Tryz.underlying9 rfl rfl hH30 (seg_sub 1 rfl) (CellsAt.one rfl) ?_)
      refine r_on 8 rfl (by kernel_rfl) 17 rfl (congrArg Value.bool h32) (o_callf (vs := #[(S x17.2)]) ca139 rfl (args1 rfl) (rhas_c (s := x17.2) hH30.all ) ?_)
      rintro _ w39 ⟨rfl, hX37⟩
      refine ⟨_, rfl, ?_⟩
      have hH38 := hX37.of_all
      refine r_on 9 rfl (by kernel_rfl) 17 rfl (congrArg Value.bool h32) (o_buildSlice (ps := #[(0, (.agg #[(.bool true), (S x17.2)]))]) (cells := #[(.bool true), (S x17.2)]) Tryz.underlying202 ti62 (by decide) (parts1 rfl) (by kernel_rfl) hH38 fun b40 w41 hH42 => ?_)
      refine r_on 10 rfl (by kernel_rfl) 17 rfl (congrArg Value.bool h32) (o_callf (vs := #[(.slice (some ⟨b40, 0, none⟩) 1 1)]) ca138 rfl (args1 rfl) (value_c (l := [(true, x17.2)]) hH42.all ((sl_litF (f := vlC) (l := [(true, x17.2)]) vlC_len rfl rfl (by simp)).mono (seg_sub 0 rfl))) ?_)
      rintro _ w45 ⟨rfl, hX43⟩
      refine ⟨_, rfl, ?_⟩
      have hH44 := hX43.of_all
      refine r_on 11 rfl (by kernel_rfl) 17 rfl (congrArg Value.bool h32) (o_not rfl ?_)
      refine r_op 12 rfl (by kernel_rfl) (o_pick_f (u := (.bool (!([(true, x17.2)].all valR)))) ((rfl : _ = _).trans (congrArg Value.bool h32)) rfl ?_)
      refine r_op 13 rfl (by kernel_rfl) (o_move (v := (.bool (!([(true, x17.2)].all valR)))) rfl ?_)
      rcases Bool.eq_false_or_eq_true (!([(true, x17.2)].all valR)) with h46 | h46
      · -- !([(true, x17.2)].all valR)
        refine r_off (b' := true) 14 rfl (by kernel_rfl) 25 rfl (congrArg Value.bool h46) rfl ?_
        refine r_off (b' := true) 15 rfl (by kernel_rfl) 25 rfl (congrArg Value.bool h46) rfl ?_
        refine r_off (b' := true) 16 rfl (by kernel_rfl) 25 rfl (congrArg Value.bool h46) rfl ?_
        refine Rest.phaseA (fun w_ => Has E w_ []) 17 25 8 rfl (by decide) (by kernel_rfl) ?_
        refine a_offu 17 rfl (by kernel_rfl) 28 rfl rfl ?_
        refine a_offu 18 rfl (by kernel_rfl) 28 rfl rfl ?_
        refine a_offu 19 rfl (by kernel_rfl) 28 rfl rfl ?_
        refine a_offu 20 rfl (by kernel_rfl) 28 rfl rfl ?_
        refine a_offu 21 rfl (by kernel_rfl) 28 rfl rfl ?_
        refine a_offu 22 rfl (by kernel_rfl) 28 rfl rfl ?_
        refine a_offu 23 rfl (by kernel_rfl) 28 rfl rfl ?_
        refine a_offu 24 rfl (by kernel_rfl) 28 rfl rfl ?_
        have hH47 : Has E w45 [] := hH44.first 0 rfl
        refine a_done (by kernel_rfl) hH47 ?_
        refine r_offu 25 rfl (by kernel_rfl) 28 rfl rfl ?_
        refine r_off (b' := true) 26 rfl (by kernel_rfl) 25 rfl (congrArg Value.bool h46) rfl ?_
        refine r_op 27 rfl (by kernel_rfl) (o_pick_t (u := (.bool true)) ((rfl : _ = _).trans (congrArg Value.bool h46)) rfl ?_)
        refine Rest.done (by kernel_rfl) ?_
        refine t_norm (hK24 _ _ ?_)
        refine c_true rfl rfl ?_
        refine wp_seq_k fun K48 hK48 => ?_
        refine c_region ?_
        refine s_op (o_assign (v := (.bool false)) rfl ?_)
        refine s_nil ?_
        refine t_norm (hK48 _ _ ?_)
        refine wp_ret ?_
        refine b_ret (t_ret (t_ret (b_ret (t_ret (c_ret1 Tryz.results113  (v := (.bool false)) rfl ?_)))))
        have q49 : (cellsR l) = false := by exact cells_no1 hx18 (by (have h1_ := h46; simp only [List.all_cons, List.all_nil, Bool.and_true] at h1_; simp only [celOk]; rw [show valR (true, x17.2) = false by simpa using h1_]; simp))
        have hH50 : Has E w45 [R] := (hH44.front 3 rfl).first 1 rfl
        exact ⟨by rw [q49], hH50⟩
      · -- not: !([(true, x17.2)].all valR)
        refine r_on 14 rfl (by kernel_rfl) 25 rfl (congrArg Value.bool h46) (o_move (v := (.int .i64 (k : Int))) rfl ?_)
        refine r_on 15 rfl (by kernel_rfl) 25 rfl (congrArg Value.bool h46) (o_gtr (a := (k : Int)) (b := 0) rfl rfl ?_)
        refine r_on 16 rfl (by kernel_rfl) 25 rfl (congrArg Value.bool h46) (o_move (v := (.bool (decide (0 < (k : Int))))) rfl ?_)
        refine Rest.phaseA (fun w_ => Has E w_ [[Hp.one b19 (.cells #[(S x17.1), (S x17.2)] 70 (0, 0))], R]) 17 25 8 rfl (by decide) (by kernel_rfl) ?_
        by_cases h51 : 0 < (k : Int)
        · -- 0 < (k : Int)
          refine a_on 17 rfl (by kernel_rfl) 28 rfl (congrArg Value.bool (decide_eq_true h51)) (fun w_ h_ => o_fieldAddr (k := 0) (fun _ => by kernel_rfl) rfl ⟨rfl, rfl⟩) ?_
          refine a_on 18 rfl (by kernel_rfl) 28 rfl (congrArg Value.bool (decide_eq_true h51)) (fun w_ h_ => o_load1 (v := (S x17.1)) Tryz.underlying9 rfl rfl h_ (seg_sub 0 rfl) (CellsAt.one rfl) ⟨rfl, rfl⟩) ?_
          refine a_on 19 rfl (by kernel_rfl) 28 rfl (congrArg Value.bool (decide_eq_true h51)) (fun w_ h_ => o_move (v := v_l) e4_0 ⟨rfl, rfl⟩) ?_
          refine a_on 20 rfl (by kernel_rfl) 28 rfl (congrArg Value.bool (decide_eq_true h51)) (fun w_ h_ => o_move (v := (.int .i64 (k : Int))) rfl ⟨rfl, rfl⟩) ?_
          refine a_on 21 rfl (by kernel_rfl) 28 rfl (congrArg Value.bool (decide_eq_true h51)) (fun w_ h_ => o_sub (a := (k : Int)) (b := 1) rfl rfl (w64 (by omega) (by omega)) ⟨rfl, rfl⟩) ?_
          obtain ⟨x55, hx56⟩ : ∃ x_, l[((k : Int) - 1).toNat]? = some x_ := get_some (by omega)
          obtain ⟨b52, o53, hc54, ho57⟩ := ix_exF ceC_len Tryz.underlying34 ti70 h_l (by omega) hx56
          refine a_on 22 rfl (by kernel_rfl) 28 rfl (congrArg Value.bool (decide_eq_true h51)) (fun w_ h_ => ho57 rfl rfl ⟨rfl, rfl⟩) ?_
          refine a_on 23 rfl (by kernel_rfl) 28 rfl (congrArg Value.bool (decide_eq_true h51)) (fun w_ h_ => o_fieldAddr (k := o53) (fun _ => by kernel_rfl) rfl ⟨rfl, rfl⟩) ?_
          refine a_on 24 rfl (by kernel_rfl) 28 rfl (congrArg Value.bool (decide_eq_true h51)) (fun w_ h_ => o_load1 (v := (S x55.1)) Tryz.underlying9 rfl rfl h_ (seg_sub 1 rfl) (CellsAt.field (k := 0) (ds := [(S x55.1)]) hc54 rfl) ⟨rfl, rfl⟩) ?_
          have hH58 : Has E w45 [[Hp.one b19 (.cells #[(S x17.1), (S x17.2)] 70 (0, 0))], R] := ((hH44.front 3 rfl).front 3 rfl).first 2 rfl
          refine a_done (by kernel_rfl) hH58 ?_
          refine r_on 25 rfl (by kernel_rfl) 28 rfl (congrArg Value.bool (decide_eq_true h51)) (o_sleP (a := x17.1) (b := x55.1) rfl rfl ?_)
          refine r_on 26 rfl (by kernel_rfl) 25 rfl (congrArg Value.bool h46) (o_pick_t (u := (.bool (decide (¬ (x55.1 < x17.1))))) ((rfl : _ = _).trans (congrArg Value.bool (decide_eq_true h51))) rfl ?_)
          refine r_op 27 rfl (by kernel_rfl) (o_pick_f (u := (.bool (decide (¬ (x55.1 < x17.1))))) ((rfl : _ = _).trans (congrArg Value.bool h46)) rfl ?_)
          refine Rest.done (by kernel_rfl) ?_
          refine t_norm (hK24 _ _ ?_)
          refine c_cond rfl (fun h59 => ?_) (fun h59 => ?_)
          · -- ¬ (x55.1 < x17.1)
            refine wp_seq_k fun K60 hK60 => ?_
            refine c_region ?_
            refine s_op (o_assign (v := (.bool false)) rfl ?_)
            refine s_nil ?_
            refine t_norm (hK60 _ _ ?_)
            refine wp_ret ?_
            refine b_ret (t_ret (t_ret (b_ret (t_ret (c_ret1 Tryz.results113  (v := (.bool false)) rfl ?_)))))
            have q61 : (cellsR l) = false := by exact cells_no2 (k := k) (by omega) hx18 (by rw [show k - 1 = ((k : Int) - 1).toNat by omega]; exact hx56) h59
            have hH62 : Has E w45 [R] := (hH44.front 3 rfl).first 1 rfl
            exact ⟨by rw [q61], hH62⟩
          · -- not: ¬ (x55.1 < x17.1)
            refine wp_skip ?_
            refine b_norm ?_
            refine t_norm (hK12 _ _ ?_)
            refine c_region ?_
            refine s_op (o_add (a := (k : Int)) (b := 1) e4_7 rfl (w64 (by omega) (by omega)) ?_)
            refine s_op (o_move (v := (.int .i64 ((k : Int) + 1))) rfl ?_)
            refine s_nil ?_
            have hH63 : Has E w45 [R] := (hH44.front 3 rfl).first 1 rfl
            refine t_norm ⟨l.length - (k + 1), _, rfl, ?_, ?_⟩
            · omega
            · exact ⟨(k + 1), rfl, hH63, (by omega), (all_next (show l[k]? = some _ from hx18) ha (by (have h1_ := h32; have h2_ := h46; simp only [List.all_cons, List.all_nil, Bool.and_true] at h1_ h2_; simp only [celOk, Bool.and_eq_true]; exact ⟨by simpa using h1_, by simpa using h2_⟩))), (cells_next (show l[k]? = some _ from hx18) hr (fun p h0 hp => by (have e_ := hp.symm.trans (show l[k - 1]? = some _ from by rw [show k - 1 = ((k : Int) - 1).toNat by omega]; exact hx56); cases e_; exact Classical.not_not.1 h59))), e4_0, e4_5, e4_6, rfl⟩
        · -- not: 0 < (k : Int)
          refine a_off (b' := false) 17 rfl (by kernel_rfl) 28 rfl (congrArg Value.bool (decide_eq_false h51)) rfl ?_
          refine a_off (b' := false) 18 rfl (by kernel_rfl) 28 rfl (congrArg Value.bool (decide_eq_false h51)) rfl ?_
          refine a_off (b' := false) 19 rfl (by kernel_rfl) 28 rfl (congrArg Value.bool (decide_eq_false h51)) rfl ?_
          refine a_off (b' := false) 20 rfl (by kernel_rfl) 28 rfl (congrArg Value.bool (decide_eq_false h51)) rfl ?_
          refine a_off (b' := false) 21 rfl (by kernel_rfl) 28 rfl (congrArg Value.bool (decide_eq_false h51)) rfl ?_
          refine a_off (b' := false) 22 rfl (by kernel_rfl) 28 rfl (congrArg Value.bool (decide_eq_false h51)) rfl ?_
          refine a_off (b' := false) 23 rfl (by kernel_rfl) 28 rfl (congrArg Value.bool (decide_eq_false h51)) rfl ?_
          refine a_off (b' := false) 24 rfl (by kernel_rfl) 28 rfl (congrArg Value.bool (decide_eq_false h51)) rfl ?_
          have hH64 : Has E w45 [[Hp.one b19 (.cells #[(S x17.1), (S x17.2)] 70 (0, 0))], R] := ((hH44.front 3 rfl).front 3 rfl).first 2 rfl
          refine a_done (by kernel_rfl) hH64 ?_
          refine r_off (b' := false) 25 rfl (by kernel_rfl) 28 rfl (congrArg Value.bool (decide_eq_false h51)) rfl ?_
          refine r_on 26 rfl (by kernel_rfl) 25 rfl (congrArg Value.bool h46) (o_pick_f (u := (.bool false)) ((rfl : _ = _).trans (congrArg Value.bool (decide_eq_false h51))) rfl ?_)
          refine r_op 27 rfl (by kernel_rfl) (o_pick_f (u := (.bool false)) ((rfl : _ = _).trans (congrArg Value.bool h46)) rfl ?_)
          refine Rest.done (by kernel_rfl) ?_
          refine t_norm (hK24 _ _ ?_)
          refine c_false rfl rfl ?_
          refine wp_skip ?_
          refine b_norm ?_
          refine t_norm (hK12 _ _ ?_)
          refine c_region ?_
          refine s_op (o_add (a := (k : Int)) (b := 1) e4_7 rfl (w64 (by omega) (by omega)) ?_)
          refine s_op (o_move (v := (.int .i64 ((k : Int) + 1))) rfl ?_)
          refine s_nil ?_
          have hH65 : Has E w45 [R] := (hH44.front 3 rfl).first 1 rfl
          refine t_norm ⟨l.length - (k + 1), _, rfl, ?_, ?_⟩
          · omega
          · exact ⟨(k + 1), rfl, hH65, (by omega), (all_next (show l[k]? = some _ from hx18) ha (by (have h1_ := h32; have h2_ := h46; simp only [List.all_cons, List.all_nil, Bool.and_true] at h1_ h2_; simp only [celOk, Bool.and_eq_true]; exact ⟨by simpa using h1_, by simpa using h2_⟩))), (cells_next (show l[k]? = some _ from hx18) hr (fun p h0 _ => absurd h0 (by omega))), e4_0, e4_5, e4_6, rfl⟩
  · -- not: (k : Int) < ((l.length : Nat) : Int)
    refine wp_exit ?_
    refine t_exit (t_exit (x_in (?_)))
    refine t_norm (hK2 _ _ ?_)
    refine wp_seq_k fun K66 hK66 => ?_
    refine c_region ?_
    refine s_op (o_move (v := v_l) e4_0 ?_)
    refine s_op (o_lenS Tryz.underlying34 rfl h_l ?_)
    refine s_op (o_leq (a := ((l.length : Nat) : Int)) (b := 8) rfl rfl ?_)
    refine s_op (o_assign (v := (.bool (decide (((l.length : Nat) : Int) ≤ 8)))) rfl ?_)
    refine s_nil ?_
    refine t_norm (hK66 _ _ ?_)
    refine wp_ret ?_
    refine c_ret1 Tryz.results113  (v := (.bool (decide (((l.length : Nat) : Int) ≤ 8)))) rfl ?_
    have q67 : (cellsR l) = decide (((l.length : Nat) : Int) ≤ 8) := by (have e_ : k = l.length := by omega); rw [e_, List.take_length] at ha hr; rw [cells_end ha hr]; exact decide_eq_decide.2 (by omega)
    exact ⟨by rw [q67], hH7⟩
set_option maxHeartbeats 4000000 in
theorem pright_c {E w : World} {R : List Hp} {no : Int} {gsn : Int} {v_l : Value} {l : List Cel}  (hH : Has E w [R]) (h_l : Sl R 2 v_l l.length (l.flatMap ceC)) :
    Calls Tryz.prog 78 #[(.agg #[(.int .i64 no), (.int .i64 gsn), v_l])] w fun e w' => e = .returned (.bool (pageR no gsn l)) ∧ Has E w' [R] := by
  refine c_enter (args := [(.agg #[(.int .i64 no), (.int .i64 gsn), v_l])]) Tryz.func78 rfl Tryz.ntmps78 (by simp) ?_
  refine wp_seq_k fun K1 hK1 => ?_
  refine c_region ?_
  refine s_op (o_box (cs := #[(.int .i64 no), (.int .i64 gsn), v_l]) rfl rfl hH fun b2 w3 hH4 => ?_)
  refine s_op (o_assign (v := (.bool false)) rfl ?_)
  refine s_nil ?_
  refine t_norm (hK1 _ _ ?_)
  refine wp_seq_k fun K5 hK5 => ?_
  refine c_region ?_
  refine s_op (o_fieldAddr (k := 0) (fun _ => by kernel_rfl) rfl ?_)
  refine s_op (o_load1 (v := (.int .i64 no)) Tryz.underlying3 rfl rfl hH4 (seg_sub 0 rfl) (CellsAt.one rfl) ?_)
  refine s_op (o_geq (a := no) (b := 0) rfl rfl ?_)
  refine s_op (o_move (v := (.bool (decide (0 ≤ no)))) rfl ?_)
  by_cases h6 : 0 ≤ no
  · -- 0 ≤ no
    refine s_on 6 rfl (congrArg Value.bool (decide_eq_true h6)) (o_fieldAddr (k := 0) (fun _ => by kernel_rfl) rfl ?_)
    refine s_on 6 rfl (congrArg Value.bool (decide_eq_true h6)) (o_load1 (v := (.int .i64 no)) Tryz.underlying3 rfl rfl hH4 (seg_sub 0 rfl) (CellsAt.one rfl) ?_)
    refine s_on 6 rfl (congrArg Value.bool (decide_eq_true h6)) (o_lss (a := no) (b := 64) rfl rfl ?_)
    refine s_op (o_pick_t (u := (.bool (decide (no < 64)))) ((rfl : _ = _).trans (congrArg Value.bool (decide_eq_true h6))) rfl ?_)
    refine s_op (o_move (v := (.bool (decide (no < 64)))) rfl ?_)
    by_cases h7 : no < 64
    · -- no < 64
      refine s_on 11 rfl (congrArg Value.bool (decide_eq_true h7)) (o_fieldAddr (k := 1) (fun _ => by kernel_rfl) rfl ?_)
      refine s_on 11 rfl (congrArg Value.bool (decide_eq_true h7)) (o_load1 (v := (.int .i64 gsn)) Tryz.underlying3 rfl rfl hH4 (seg_sub 0 rfl) (CellsAt.one rfl) ?_)
      refine s_on 11 rfl (congrArg Value.bool (decide_eq_true h7)) (o_geq (a := gsn) (b := 0) rfl rfl ?_)
      refine s_op (o_pick_t (u := (.bool (decide (0 ≤ gsn)))) ((rfl : _ = _).trans (congrArg Value.bool (decide_eq_true h7))) rfl ?_)
      refine s_op (o_move (v := (.bool (decide (0 ≤ gsn)))) rfl ?_)
      by_cases h8 : 0 ≤ gsn
      · -- 0 ≤ gsn
        refine s_on 16 rfl (congrArg Value.bool (decide_eq_true h8)) (o_fieldAddr (k := 1) (fun _ => by kernel_rfl) rfl ?_)
        refine s_on 16 rfl (congrArg Value.bool (decide_eq_true h8)) (o_load1 (v := (.int .i64 gsn)) Tryz.underlying3 rfl rfl hH4 (seg_sub 0 rfl) (CellsAt.one rfl) ?_)
        refine s_on 16 rfl (congrArg Value.bool (decide_eq_true h8)) (o_leq (a := gsn) (b := 4611686018427387903) rfl rfl ?_)
        refine s_op (o_pick_t (u := (.bool (decide (gsn ≤ 4611686018427387903)))) ((rfl : _ = _).trans (congrArg Value.bool (decide_eq_true h8))) rfl ?_)
        refine s_op (o_move (v := (.bool (decide (gsn ≤ 4611686018427387903)))) rfl ?_)
        by_cases h9 : gsn ≤ 4611686018427387903
        · -- gsn ≤ 4611686018427387903
          refine s_on 21 rfl (congrArg Value.bool (decide_eq_true h9)) (o_fieldAddr (k := 2) (fun _ => by kernel_rfl) rfl ?_)
          refine s_on 21 rfl (congrArg Value.bool (decide_eq_true h9)) (o_load1 (v := v_l) Tryz.underlying34 rfl rfl hH4 (seg_sub 0 rfl) (CellsAt.one rfl) ?_)
          refine s_on 21 rfl (congrArg Value.bool (decide_eq_true h9)) (o_callf (vs := #[v_l]) ca113 rfl (args1 rfl) (cells_c (l := l) hH4.all (h_l.mono (seg_sub 1 rfl))) ?_)
          rintro _ w12 ⟨rfl, hX10⟩
          refine ⟨_, rfl, ?_⟩
          have hH11 := hX10.of_all
          refine s_op (o_pick_t (u := (.bool (cellsR l))) ((rfl : _ = _).trans (congrArg Value.bool (decide_eq_true h9))) rfl ?_)
          refine s_op (o_assign (v := (.bool (cellsR l))) rfl ?_)
          refine s_nil ?_
          refine t_norm (hK5 _ _ ?_)
          refine wp_ret ?_
          refine c_ret1 Tryz.results78  (v := (.bool (cellsR l))) rfl ?_
          have q13 : (pageR no gsn l) = (cellsR l) := by unfold pageR; rw [Bool.eq_iff_iff]; simp [h6, h7, h8, h9]; try omega
          have hH14 : Has E w12 [R] := (hH11.front 1 rfl).first 1 rfl
          exact ⟨by rw [q13], hH14⟩
        · -- not: gsn ≤ 4611686018427387903
          refine s_off (b' := false) 21 rfl (congrArg Value.bool (decide_eq_false h9)) rfl ?_
          refine s_off (b' := false) 21 rfl (congrArg Value.bool (decide_eq_false h9)) rfl ?_
          refine s_off (b' := false) 21 rfl (congrArg Value.bool (decide_eq_false h9)) rfl ?_
          refine s_op (o_pick_f (u := (.bool false)) ((rfl : _ = _).trans (congrArg Value.bool (decide_eq_false h9))) rfl ?_)
          refine s_op (o_assign (v := (.bool false)) rfl ?_)
          refine s_nil ?_
          refine t_norm (hK5 _ _ ?_)
          refine wp_ret ?_
          refine c_ret1 Tryz.results78  (v := (.bool false)) rfl ?_
          have q15 : (pageR no gsn l) = false := by unfold pageR; rw [Bool.eq_iff_iff]; simp [h6, h7, h8, h9]; try omega
          have hH16 : Has E w3 [R] := (hH4.front 1 rfl).first 1 rfl
          exact ⟨by rw [q15], hH16⟩
      · -- not: 0 ≤ gsn
        refine s_off (b' := false) 16 rfl (congrArg Value.bool (decide_eq_false h8)) rfl ?_
        refine s_off (b' := false) 16 rfl (congrArg Value.bool (decide_eq_false h8)) rfl ?_
        refine s_off (b' := false) 16 rfl (congrArg Value.bool (decide_eq_false h8)) rfl ?_
        refine s_op (o_pick_f (u := (.bool false)) ((rfl : _ = _).trans (congrArg Value.bool (decide_eq_false h8))) rfl ?_)
        refine s_op (o_move (v := (.bool false)) rfl ?_)
        refine s_off (b' := false) 21 rfl rfl rfl ?_
        refine s_off (b' := false) 21 rfl rfl rfl ?_
        refine s_off (b' := false) 21 rfl rfl rfl ?_
        refine s_op (o_pick_f (u := (.bool false)) rfl rfl ?_)
        refine s_op (o_assign (v := (.bool false)) rfl ?_)
        refine s_nil ?_
        refine t_norm (hK5 _ _ ?_)
        refine wp_ret ?_
        refine c_ret1 Tryz.results78  (v := (.bool false)) rfl ?_
        have q17 : (pageR no gsn l) = false := by unfold pageR; rw [Bool.eq_iff_iff]; simp [h6, h7, h8]; try omega
        have hH18 : Has E w3 [R] := (hH4.front 1 rfl).first 1 rfl
        exact ⟨by rw [q17], hH18⟩
    · -- not: no < 64
      refine s_off (b' := false) 11 rfl (congrArg Value.bool (decide_eq_false h7)) rfl ?_
      refine s_off (b' := false) 11 rfl (congrArg Value.bool (decide_eq_false h7)) rfl ?_
      refine s_off (b' := false) 11 rfl (congrArg Value.bool (decide_eq_false h7)) rfl ?_
      refine s_op (o_pick_f (u := (.bool false)) ((rfl : _ = _).trans (congrArg Value.bool (decide_eq_false h7))) rfl ?_)
      refine s_op (o_move (v := (.bool false)) rfl ?_)
      refine s_off (b' := false) 16 rfl rfl rfl ?_
      refine s_off (b' := false) 16 rfl rfl rfl ?_
      refine s_off (b' := false) 16 rfl rfl rfl ?_
      refine s_op (o_pick_f (u := (.bool false)) rfl rfl ?_)
      refine s_op (o_move (v := (.bool false)) rfl ?_)
      refine s_off (b' := false) 21 rfl rfl rfl ?_
      refine s_off (b' := false) 21 rfl rfl rfl ?_
      refine s_off (b' := false) 21 rfl rfl rfl ?_
      refine s_op (o_pick_f (u := (.bool false)) rfl rfl ?_)
      refine s_op (o_assign (v := (.bool false)) rfl ?_)
      refine s_nil ?_
      refine t_norm (hK5 _ _ ?_)
      refine wp_ret ?_
      refine c_ret1 Tryz.results78  (v := (.bool false)) rfl ?_
      have q19 : (pageR no gsn l) = false := by unfold pageR; rw [Bool.eq_iff_iff]; simp [h6, h7]; try omega
      have hH20 : Has E w3 [R] := (hH4.front 1 rfl).first 1 rfl
      exact ⟨by rw [q19], hH20⟩
  · -- not: 0 ≤ no
    refine s_off (b' := false) 6 rfl (congrArg Value.bool (decide_eq_false h6)) rfl ?_
    refine s_off (b' := false) 6 rfl (congrArg Value.bool (decide_eq_false h6)) rfl ?_
    refine s_off (b' := false) 6 rfl (congrArg Value.bool (decide_eq_false h6)) rfl ?_
    refine s_op (o_pick_f (u := (.bool false)) ((rfl : _ = _).trans (congrArg Value.bool (decide_eq_false h6))) rfl ?_)
    refine s_op (o_move (v := (.bool false)) rfl ?_)
    refine s_off (b' := false) 11 rfl rfl rfl ?_
    refine s_off (b' := false) 11 rfl rfl rfl ?_
    refine s_off (b' := false) 11 rfl rfl rfl ?_
    refine s_op (o_pick_f (u := (.bool false)) rfl rfl ?_)
    refine s_op (o_move (v := (.bool false)) rfl ?_)
    refine s_off (b' := false) 16 rfl rfl rfl ?_
    refine s_off (b' := false) 16 rfl rfl rfl ?_
    refine s_off (b' := false) 16 rfl rfl rfl ?_
    refine s_op (o_pick_f (u := (.bool false)) rfl rfl ?_)
    refine s_op (o_move (v := (.bool false)) rfl ?_)
    refine s_off (b' := false) 21 rfl rfl rfl ?_
    refine s_off (b' := false) 21 rfl rfl rfl ?_
    refine s_off (b' := false) 21 rfl rfl rfl ?_
    refine s_op (o_pick_f (u := (.bool false)) rfl rfl ?_)
    refine s_op (o_assign (v := (.bool false)) rfl ?_)
    refine s_nil ?_
    refine t_norm (hK5 _ _ ?_)
    refine wp_ret ?_
    refine c_ret1 Tryz.results78  (v := (.bool false)) rfl ?_
    have q21 : (pageR no gsn l) = false := by unfold pageR; rw [Bool.eq_iff_iff]; simp [h6]; try omega
    have hH22 : Has E w3 [R] := (hH4.front 1 rfl).first 1 rfl
    exact ⟨by rw [q21], hH22⟩
end Go.Q
namespace Go.Q
theorem setE_bad {no gsn g : Int} {l : List Cel} {key : Bs} {v : Bool × Bs} (h : pageR no gsn l = false ∨ keyR key = false ∨ valR v = false ∨ g ≤ gsn ∨ 4611686018427387903 < g) : setE no gsn l key v g = 1 := by
  unfold setE
  rw [if_neg]
  intro e
  simp only [Bool.and_eq_true, decide_eq_true_eq] at e
  rcases h with h | h | h | h | h
  · rw [e.1.1.1] at h; cases h
  · rw [e.1.1.2] at h; cases h
  · rw [e.1.2] at h; cases h
  · omega
  · omega
theorem setE_ok {no gsn g : Int} {l : List Cel} {key : Bs} {v : Bool × Bs} (h1 : pageR no gsn l = true) (h2 : keyR key = true) (h3 : valR v = true) (h4 : ¬ g ≤ gsn) (h5 : ¬ 4611686018427387903 < g) :
    setE no gsn l key v g = if v.1 = false ∧ hasC l key = false then 7 else if v.1 = true ∧ hasC l key = false ∧ 8 ≤ l.length then 4 else 0 := by
  unfold setE
  rw [if_pos]
  simp only [Bool.and_eq_true, decide_eq_true_eq]
  exact ⟨⟨⟨h1, h2⟩, h3⟩, by omega⟩
theorem setE_one {no gsn g : Int} {l : List Cel} {key : Bs} {v : Bool × Bs} (h : setE no gsn l key v g ≠ 1) : pageR no gsn l = true ∧ keyR key = true ∧ valR v = true ∧ gsn < g ∧ g ≤ 4611686018427387903 := by
  unfold setE at h
  split at h
  · rename_i e
    simp only [Bool.and_eq_true, decide_eq_true_eq] at e
    exact ⟨e.1.1.1, e.1.1.2, e.1.2, e.2⟩
  · exact absurd rfl h
/-- the page that is told -/
def setNo (no gsn : Int) (l : List Cel) (key : Bs) (v : Bool × Bs) (g : Int) : Int := if setE no gsn l key v g = 0 then no else 0
def setG (no gsn : Int) (l : List Cel) (key : Bs) (v : Bool × Bs) (g : Int) : Int := if setE no gsn l key v g = 0 then g else 0
def setL (no gsn : Int) (l : List Cel) (key : Bs) (v : Bool × Bs) (g : Int) : List Cel := if setE no gsn l key v g = 0 then setC l key v else []
theorem pageR_iff {no gsn : Int} {l : List Cel} : pageR no gsn l = true ↔ (0 ≤ no ∧ no < 64 ∧ 0 ≤ gsn ∧ gsn ≤ 4611686018427387903) ∧ cellsR l = true := by
  unfold pageR; rw [Bool.and_eq_true, decide_eq_true_iff]
/-! ### as the document makes it -/
def putL (key s : Bs) : Bool → List Cel → List Cel
  | d, [] => if d = true then [] else [(key, s)]
  | d, c :: t => (if d = false ∧ ¬ c.1 < key then [(key, s)] else []) ++ ((if c.1 ≠ key then [c] else []) ++ putL key s (d || !decide (c.1 < key)) t)
theorem putL_step {key s : Bs} {d : Bool} {l out : List Cel} {k : Nat} {c : Cel} {X : List Cel} (h : X = out ++ putL key s d (l.drop k)) (hx : l[k]? = some c) :
    X = out ++ (if d = false ∧ ¬ c.1 < key then [(key, s)] else []) ++ (if c.1 ≠ key then [c] else []) ++ putL key s (d || !decide (c.1 < key)) (l.drop (k + 1)) := by
  obtain ⟨h1, h2⟩ := List.getElem?_eq_some_iff.1 hx
  rw [h, List.drop_eq_getElem_cons h1, h2, putL]
  simp only [List.append_assoc]
theorem putL_end {key s : Bs} {d : Bool} {l out : List Cel} {k : Nat} {X : List Cel} (h : X = out ++ putL key s d (l.drop k)) (hk : k = l.length) : X = out ++ (if d = true then [] else [(key, s)]) := by
  rw [h, hk, List.drop_length, putL]
theorem putL_true {key s : Bs} : ∀ {l : List Cel}, putL key s true l = l.filter fun c => decide (c.1 ≠ key)
  | [] => rfl
  | c :: t => by
    rw [putL, List.filter_cons, Bool.true_or, putL_true]
    by_cases h : c.1 = key <;> simp [h]
theorem rises_cons {c : Cel} {t : List Cel} (h : Rises (c :: t)) : (∀ a ∈ t, c.1 < a.1) ∧ Rises t := List.pairwise_cons.1 h
theorem pos_zero {key : Bs} {l : List Cel} (h : ∀ a ∈ l, ¬ a.1 < key) : posC l key = 0 := by
  unfold posC
  rw [List.filter_eq_nil_iff.2 (fun a ha => by simpa using h a ha)]; rfl
theorem pos_cons {key : Bs} {c : Cel} {t : List Cel} (h : c.1 < key) : (posC (c :: t) key).toNat = (posC t key).toNat + 1 := by
  unfold posC
  rw [List.filter_cons, if_pos (decide_eq_true h)]
  simp only [List.length_cons]; omega
theorem has_cons {key : Bs} {c : Cel} {t : List Cel} (h : c.1 ≠ key) : hasC (c :: t) key = hasC t key := by
  unfold hasC; rw [List.any_cons, decide_eq_false h, Bool.false_or]
theorem filter_same {key : Bs} {l : List Cel} (h : ∀ a ∈ l, key < a.1) : (l.filter fun c => decide (c.1 ≠ key)) = l := List.filter_eq_self.2 fun a ha => decide_eq_true fun e => by
  have := h a ha; rw [e] at this; exact bs_irr _ this
theorem has_none {key : Bs} {l : List Cel} (h : ∀ a ∈ l, key < a.1) : hasC l key = false := by
  unfold hasC; rw [List.any_eq_false]; intro a ha
  rw [decide_eq_true_iff]; intro e
  have := h a ha; rw [e] at this; exact bs_irr _ this
theorem put_true {key s : Bs} : ∀ {l : List Cel}, Rises l → putL key s false l = setC l key (true, s)
  | [], _ => by simp [putL, setC, hasC, posC, insAt]
  | c :: t, h => by
    obtain ⟨h1, h2⟩ := rises_cons h
    by_cases hlt : c.1 < key
    · have hne : c.1 ≠ key := fun e => by rw [e] at hlt; exact bs_irr _ hlt
      have ih := put_true (key := key) (s := s) h2
      rw [putL, if_neg (by simp [hlt]), if_pos hne, decide_eq_true hlt, List.nil_append, Bool.not_true, Bool.or_false, ih]
      unfold setC
      rw [if_pos rfl, if_pos rfl, has_cons hne, pos_cons hlt]
      split
      · rfl
      · simp [insAt]
    · rw [putL, if_pos ⟨rfl, hlt⟩, decide_eq_false hlt, Bool.not_false, Bool.or_true, putL_true]
      unfold setC
      rw [if_pos rfl]
      by_cases he : c.1 = key
      · have ht : ∀ a ∈ t, key < a.1 := fun a ha => by rw [← he]; exact h1 a ha
        rw [if_pos (show hasC (c :: t) key = true by unfold hasC; rw [List.any_cons, decide_eq_true he, Bool.true_or]), pos_zero (fun a ha => ?_), if_neg (by simp [he]), filter_same ht]
        · rfl
        · rcases List.mem_cons.1 ha with e | e
          · rw [e]; exact hlt
          · exact fun g => bs_irr _ (bs_tr g (ht a e))
      · have hgt : key < c.1 := by
          rcases List.le_iff_lt_or_eq.1 (List.not_lt.1 hlt) with e | e
          · exact e
          · exact absurd e.symm he
        have ht : ∀ a ∈ t, key < a.1 := fun a ha => bs_tr hgt (h1 a ha)
        rw [if_neg (show ¬ hasC (c :: t) key = true by rw [has_cons he, has_none ht]; simp), pos_zero (fun a ha => ?_), if_pos he, filter_same ht]
        · simp [insAt]
        · rcases List.mem_cons.1 ha with e | e
          · rw [e]; exact hlt
          · exact fun g => bs_irr _ (bs_tr g (ht a e))
theorem put_false {key s : Bs} : ∀ {l : List Cel}, Rises l → hasC l key = true → putL key s true l = setC l key (false, s)
  | [], _, hh => by simp [hasC] at hh
  | c :: t, h, hh => by
    obtain ⟨h1, h2⟩ := rises_cons h
    rw [putL_true]
    unfold setC
    rw [if_neg (by simp)]
    by_cases he : c.1 = key
    · have ht : ∀ a ∈ t, key < a.1 := fun a ha => by rw [← he]; exact h1 a ha
      rw [pos_zero (fun a ha => ?_), List.filter_cons, if_neg (by simp [he]), filter_same ht]
      · rfl
      · rcases List.mem_cons.1 ha with e | e
        · rw [e, he]; exact bs_irr _
        · exact fun g => bs_irr _ (bs_tr g (ht a e))
    · have hh2 : hasC t key = true := by rw [← has_cons he]; exact hh
      have hlt : c.1 < key := by
        obtain ⟨a, ha, hb⟩ := List.any_eq_true.1 hh2
        have := h1 a ha
        rw [of_decide_eq_true hb] at this; exact this
      have ih := put_false (key := key) (s := s) h2 hh2
      rw [putL_true] at ih
      unfold setC at ih
      rw [if_neg (by simp)] at ih
      rw [List.filter_cons, if_pos (decide_eq_true he), ih, pos_cons hlt]
      rfl
theorem getC_has : ∀ (l : List Cel) (key : Bs), (getC l key).1 = hasC l key
  | [], _ => rfl
  | c :: t, key => by
    rw [getC]
    by_cases h : c.1 = key
    · rw [if_pos h]; unfold hasC; rw [List.any_cons, decide_eq_true h]; rfl
    · rw [if_neg h, has_cons h]; exact getC_has t key
/-- the document's page, where it tells one -/
theorem put_eq {l : List Cel} {key : Bs} {v : Bool × Bs} (h : Rises l) (hh : v.1 = true ∨ hasC l key = true) : putL key v.2 (!v.1) l = setC l key v := by
  obtain ⟨a, s⟩ := v
  cases a with
  | true => exact put_true h
  | false => exact put_false h (hh.elim (fun e => by cases e) id)
end Go.Q
namespace Go.Q
theorem key_eq0 {k : Bs} (h : (k.length : Int) < 1 ∨ 8 < (k.length : Int)) : keyR k = false := by
  unfold keyR
  rw [Bool.and_eq_false_iff, decide_eq_false_iff_not, decide_eq_false_iff_not]
  rcases h with h | h
  · exact .inl (fun g => g (List.eq_nil_of_length_eq_zero (by omega)))
  · exact .inr (by omega)
theorem key_eq1 {k : Bs} (h : 1 ≤ (k.length : Int) ∧ (k.length : Int) ≤ 8) : keyR k = true := by
  unfold keyR
  rw [Bool.and_eq_true, decide_eq_true_iff, decide_eq_true_iff]
  exact ⟨fun g => by rw [g] at h; simp at h, h.2⟩
theorem key_eq2 {k : Bs} (h : 1 ≤ (k.length : Int)) : keyR k = decide ((k.length : Int) ≤ 8) := by
  by_cases g : (k.length : Int) ≤ 8
  · rw [key_eq1 ⟨h, g⟩, decide_eq_true g]
  · rw [key_eq0 (.inr (by omega)), decide_eq_false g]
theorem pageR_no {no gsn : Int} {l : List Cel} (h : ¬ (0 ≤ no ∧ no < 64 ∧ 0 ≤ gsn ∧ gsn ≤ 4611686018427387903) ∨ 8 < l.length) : pageR no gsn l = false := by
  cases e : pageR no gsn l with
  | false => rfl
  | true =>
    obtain ⟨h1, h2⟩ := pageR_iff.1 e
    have h3 := (cellsR_iff.1 h2).2.2
    rcases h with h | h
    · exact absurd h1 h
    · omega
theorem pageR_nc {no gsn : Int} {l : List Cel} (h : cellsR l = false) : pageR no gsn l = false := by unfold pageR; rw [h, Bool.and_false]
end Go.Q
namespace Go.Q
end Go.Q
namespace Go.Q
open Go.Proofs
set_option linter.unusedVariables false
set_option maxRecDepth 100000
attribute [local irreducible] wpList OK Code.wp
set_option maxHeartbeats 4000000 in
theorem rkey_c {E w : World} {R : List Hp} {k : Bs}  (hH : Has E w [R]) :
    Calls Tryz.prog 55 #[(S k)] w fun e w' => e = .returned (.bool (keyR k)) ∧ Has E w' [R] := by
  refine c_enter (args := [(S k)]) Tryz.func55 rfl Tryz.ntmps55 (by simp) ?_
  refine wp_seq_k fun K1 hK1 => ?_
  refine c_region ?_
  refine s_op (o_assign (v := (.bool false)) rfl ?_)
  refine s_nil ?_
  refine t_norm (hK1 _ _ ?_)
  refine wp_seq_k fun K2 hK2 => ?_
  refine c_region ?_
  refine s_op (o_move (v := (S k)) rfl ?_)
  refine s_op (o_slen Tryz.underlying9 rfl ?_)
  refine s_op (o_geq (a := (k.length : Int)) (b := 1) rfl rfl ?_)
  refine s_op (o_move (v := (.bool (decide (1 ≤ (k.length : Int))))) rfl ?_)
  by_cases h3 : 1 ≤ (k.length : Int)
  · -- 1 ≤ (k.length : Int)
    refine s_on 6 rfl (congrArg Value.bool (decide_eq_true h3)) (o_move (v := (S k)) rfl ?_)
    refine s_on 6 rfl (congrArg Value.bool (decide_eq_true h3)) (o_slen Tryz.underlying9 rfl ?_)
    refine s_on 6 rfl (congrArg Value.bool (decide_eq_true h3)) (o_leq (a := (k.length : Int)) (b := 8) rfl rfl ?_)
    refine s_op (o_pick_t (u := (.bool (decide ((k.length : Int) ≤ 8)))) ((rfl : _ = _).trans (congrArg Value.bool (decide_eq_true h3))) rfl ?_)
    refine s_op (o_assign (v := (.bool (decide ((k.length : Int) ≤ 8)))) rfl ?_)
    refine s_nil ?_
    refine t_norm (hK2 _ _ ?_)
    refine wp_ret ?_
    refine c_ret1 Tryz.results55  (v := (.bool (decide ((k.length : Int) ≤ 8)))) rfl ?_
    have q4 : (keyR k) = decide ((k.length : Int) ≤ 8) := by exact key_eq2 (by omega)
    exact ⟨by rw [q4], hH⟩
  · -- not: 1 ≤ (k.length : Int)
    refine s_off (b' := false) 6 rfl (congrArg Value.bool (decide_eq_false h3)) rfl ?_
    refine s_off (b' := false) 6 rfl (congrArg Value.bool (decide_eq_false h3)) rfl ?_
    refine s_off (b' := false) 6 rfl (congrArg Value.bool (decide_eq_false h3)) rfl ?_
    refine s_op (o_pick_f (u := (.bool false)) ((rfl : _ = _).trans (congrArg Value.bool (decide_eq_false h3))) rfl ?_)
    refine s_op (o_assign (v := (.bool false)) rfl ?_)
    refine s_nil ?_
    refine t_norm (hK2 _ _ ?_)
    refine wp_ret ?_
    refine c_ret1 Tryz.results55  (v := (.bool false)) rfl ?_
    have q5 : (keyR k) = false := by exact key_eq0 (by omega)
    exact ⟨by rw [q5], hH⟩
set_option maxHeartbeats 4000000 in
theorem r11right_c {E w : World} {R : List Hp} {no : Int} {gsn : Int} {v_l : Value} {l : List Cel}  (hH : Has E w [R]) (h_l : Sl R 2 v_l l.length (l.flatMap ceC)) :
    Calls Tryz.prog 17 #[(.agg #[(.int .i64 no), (.int .i64 gsn), v_l])] w fun e w' => e = .returned (.bool (pageR no gsn l)) ∧ Has E w' [R] := by
  have hn_ := h_l.le
  refine c_enter (args := [(.agg #[(.int .i64 no), (.int .i64 gsn), v_l])]) Tryz.func17 rfl Tryz.ntmps17 (by simp) ?_
  refine wp_seq_k fun K1 hK1 => ?_
  refine c_region ?_
  refine s_op (o_box (cs := #[(.int .i64 no), (.int .i64 gsn), v_l]) rfl rfl hH fun b2 w3 hH4 => ?_)
  refine s_op (o_assign (v := (.bool false)) rfl ?_)
  refine s_nil ?_
  refine t_norm (hK1 _ _ ?_)
  refine wp_seq_k fun K5 hK5 => ?_
  refine wp_seq_k fun K6 hK6 => ?_
  refine c_region ?_
  refine s_op (o_fieldAddr (k := 0) (fun _ => by kernel_rfl) rfl ?_)
  refine s_op (o_load1 (v := (.int .i64 no)) Tryz.underlying3 rfl rfl hH4 (seg_sub 0 rfl) (CellsAt.one rfl) ?_)
  refine s_op (o_lss (a := no) (b := 0) rfl rfl ?_)
  refine s_op (o_move (v := (.bool (decide (no < 0)))) rfl ?_)
  by_cases h7 : no < 0
  · -- no < 0
    refine s_off (b' := true) 7 rfl (congrArg Value.bool (decide_eq_true h7)) rfl ?_
    refine s_off (b' := true) 7 rfl (congrArg Value.bool (decide_eq_true h7)) rfl ?_
    refine s_off (b' := true) 7 rfl (congrArg Value.bool (decide_eq_true h7)) rfl ?_
    refine s_op (o_pick_t (u := (.bool true)) ((rfl : _ = _).trans (congrArg Value.bool (decide_eq_true h7))) rfl ?_)
    refine s_op (o_move (v := (.bool true)) rfl ?_)
    refine s_off (b' := true) 12 rfl rfl rfl ?_
    refine s_off (b' := true) 12 rfl rfl rfl ?_
    refine s_off (b' := true) 12 rfl rfl rfl ?_
    refine s_op (o_pick_t (u := (.bool true)) rfl rfl ?_)
    refine s_op (o_move (v := (.bool true)) rfl ?_)
    refine s_off (b' := true) 17 rfl rfl rfl ?_
    refine s_off (b' := true) 17 rfl rfl rfl ?_
    refine s_off (b' := true) 17 rfl rfl rfl ?_
    refine s_op (o_pick_t (u := (.bool true)) rfl rfl ?_)
    refine s_op (o_move (v := (.bool true)) rfl ?_)
    refine s_off (b' := true) 22 rfl rfl rfl ?_
    refine s_off (b' := true) 22 rfl rfl rfl ?_
    refine s_off (b' := true) 22 rfl rfl rfl ?_
    refine s_off (b' := true) 22 rfl rfl rfl ?_
    refine s_op (o_pick_t (u := (.bool true)) rfl rfl ?_)
    refine s_nil ?_
    refine t_norm (hK6 _ _ ?_)
    refine c_true rfl rfl ?_
    refine wp_seq_k fun K8 hK8 => ?_
    refine c_region ?_
    refine s_op (o_assign (v := (.bool false)) rfl ?_)
    refine s_nil ?_
    refine t_norm (hK8 _ _ ?_)
    refine wp_ret ?_
    refine t_ret (c_ret1 Tryz.results17  (v := (.bool false)) rfl ?_)
    have q9 : (pageR no gsn l) = false := by exact pageR_no (by first | exact .inl (by omega) | exact .inr (by omega))
    have hH10 : Has E w3 [R] := (hH4.front 1 rfl).first 1 rfl
    exact ⟨by rw [q9], hH10⟩
  · -- not: no < 0
    refine s_on 7 rfl (congrArg Value.bool (decide_eq_false h7)) (o_fieldAddr (k := 0) (fun _ => by kernel_rfl) rfl ?_)
    refine s_on 7 rfl (congrArg Value.bool (decide_eq_false h7)) (o_load1 (v := (.int .i64 no)) Tryz.underlying3 rfl rfl hH4 (seg_sub 0 rfl) (CellsAt.one rfl) ?_)
    refine s_on 7 rfl (congrArg Value.bool (decide_eq_false h7)) (o_gtr (a := no) (b := 63) rfl rfl ?_)
    refine s_op (o_pick_f (u := (.bool (decide (63 < no)))) ((rfl : _ = _).trans (congrArg Value.bool (decide_eq_false h7))) rfl ?_)
    refine s_op (o_move (v := (.bool (decide (63 < no)))) rfl ?_)
    by_cases h11 : 63 < no
    · -- 63 < no
      refine s_off (b' := true) 12 rfl (congrArg Value.bool (decide_eq_true h11)) rfl ?_
      refine s_off (b' := true) 12 rfl (congrArg Value.bool (decide_eq_true h11)) rfl ?_
      refine s_off (b' := true) 12 rfl (congrArg Value.bool (decide_eq_true h11)) rfl ?_
      refine s_op (o_pick_t (u := (.bool true)) ((rfl : _ = _).trans (congrArg Value.bool (decide_eq_true h11))) rfl ?_)
      refine s_op (o_move (v := (.bool true)) rfl ?_)
      refine s_off (b' := true) 17 rfl rfl rfl ?_
      refine s_off (b' := true) 17 rfl rfl rfl ?_
      refine s_off (b' := true) 17 rfl rfl rfl ?_
      refine s_op (o_pick_t (u := (.bool true)) rfl rfl ?_)
      refine s_op (o_move (v := (.bool true)) rfl ?_)
      refine s_off (b' := true) 22 rfl rfl rfl ?_
      refine s_off (b' := true) 22 rfl rfl rfl ?_
      refine s_off (b' := true) 22 rfl rfl rfl ?_
      refine s_off (b' := true) 22 rfl rfl rfl ?_
      refine s_op (o_pick_t (u := (.bool true)) rfl rfl ?_)
      refine s_nil ?_
      refine t_norm (hK6 _ _ ?_)
      refine c_true rfl rfl ?_
      refine wp_seq_k fun K12 hK12 => ?_
      refine c_region ?_
      refine s_op (o_assign (v := (.bool false)) rfl ?_)
      refine s_nil ?_
      refine t_norm (hK12 _ _ ?_)
      refine wp_ret ?_
      refine t_ret (c_ret1 Tryz.results17  (v := (.bool false)) rfl ?_)
      have q13 : (pageR no gsn l) = false := by exact pageR_no (by first | exact .inl (by omega) | exact .inr (by omega))
      have hH14 : Has E w3 [R] := (hH4.front 1 rfl).first 1 rfl
      exact ⟨by rw [q13], hH14⟩
    · -- not: 63 < no
      refine s_on 12 rfl (congrArg Value.bool (decide_eq_false h11)) (o_fieldAddr (k := 1) (fun _ => by kernel_rfl) rfl ?_)
      refine s_on 12 rfl (congrArg Value.bool (decide_eq_false h11)) (o_load1 (v := (.int .i64 gsn)) Tryz.underlying3 rfl rfl hH4 (seg_sub 0 rfl) (CellsAt.one rfl) ?_)
      refine s_on 12 rfl (congrArg Value.bool (decide_eq_false h11)) (o_lss (a := gsn) (b := 0) rfl rfl ?_)
      refine s_op (o_pick_f (u := (.bool (decide (gsn < 0)))) ((rfl : _ = _).trans (congrArg Value.bool (decide_eq_false h11))) rfl ?_)
      refine s_op (o_move (v := (.bool (decide (gsn < 0)))) rfl ?_)
      by_cases h15 : gsn < 0
      · -- gsn < 0
        refine s_off (b' := true) 17 rfl (congrArg Value.bool (decide_eq_true h15)) rfl ?_
        refine s_off (b' := true) 17 rfl (congrArg Value.bool (decide_eq_true h15)) rfl ?_
        refine s_off (b' := true) 17 rfl (congrArg Value.bool (decide_eq_true h15)) rfl ?_
        refine s_op (o_pick_t (u := (.bool true)) ((rfl : _ = _).trans (congrArg Value.bool (decide_eq_true h15))) rfl ?_)
        refine s_op (o_move (v := (.bool true)) rfl ?_)
        refine s_off (b' := true) 22 rfl rfl rfl ?_
        refine s_off (b' := true) 22 rfl rfl rfl ?_
        refine s_off (b' := true) 22 rfl rfl rfl ?_
        refine s_off (b' := true) 22 rfl rfl rfl ?_
        refine s_op (o_pick_t (u := (.bool true)) rfl rfl ?_)
        refine s_nil ?_
        refine t_norm (hK6 _ _ ?_)
        refine c_true rfl rfl ?_
        refine wp_seq_k fun K16 hK16 => ?_
        refine c_region ?_
        refine s_op (o_assign (v := (.bool false)) rfl ?_)
        refine s_nil ?_
        refine t_norm (hK16 _ _ ?_)
        refine wp_ret ?_
        refine t_ret (c_ret1 Tryz.results17  (v := (.bool false)) rfl ?_)
        have q17 : (pageR no gsn l) = false := by exact pageR_no (by first | exact .inl (by omega) | exact .inr (by omega))
        have hH18 : Has E w3 [R] := (hH4.front 1 rfl).first 1 rfl
        exact ⟨by rw [q17], hH18⟩
      · -- not: gsn < 0
        refine s_on 17 rfl (congrArg Value.bool (decide_eq_false h15)) (o_fieldAddr (k := 1) (fun _ => by kernel_rfl) rfl ?_)
        refine s_on 17 rfl (congrArg Value.bool (decide_eq_false h15)) (o_load1 (v := (.int .i64 gsn)) Tryz.underlying3 rfl rfl hH4 (seg_sub 0 rfl) (CellsAt.one rfl) ?_)
        refine s_on 17 rfl (congrArg Value.bool (decide_eq_false h15)) (o_geq (a := gsn) (b := 4611686018427387904) rfl rfl ?_)
        refine s_op (o_pick_f (u := (.bool (decide (4611686018427387904 ≤ gsn)))) ((rfl : _ = _).trans (congrArg Value.bool (decide_eq_false h15))) rfl ?_)
        refine s_op (o_move (v := (.bool (decide (4611686018427387904 ≤ gsn)))) rfl ?_)
        by_cases h19 : 4611686018427387904 ≤ gsn
        · -- 4611686018427387904 ≤ gsn
          refine s_off (b' := true) 22 rfl (congrArg Value.bool (decide_eq_true h19)) rfl ?_
          refine s_off (b' := true) 22 rfl (congrArg Value.bool (decide_eq_true h19)) rfl ?_
          refine s_off (b' := true) 22 rfl (congrArg Value.bool (decide_eq_true h19)) rfl ?_
          refine s_off (b' := true) 22 rfl (congrArg Value.bool (decide_eq_true h19)) rfl ?_
          refine s_op (o_pick_t (u := (.bool true)) ((rfl : _ = _).trans (congrArg Value.bool (decide_eq_true h19))) rfl ?_)
          refine s_nil ?_
          refine t_norm (hK6 _ _ ?_)
          refine c_true rfl rfl ?_
          refine wp_seq_k fun K20 hK20 => ?_
          refine c_region ?_
          refine s_op (o_assign (v := (.bool false)) rfl ?_)
          refine s_nil ?_
          refine t_norm (hK20 _ _ ?_)
          refine wp_ret ?_
          refine t_ret (c_ret1 Tryz.results17  (v := (.bool false)) rfl ?_)
          have q21 : (pageR no gsn l) = false := by exact pageR_no (by first | exact .inl (by omega) | exact .inr (by omega))
          have hH22 : Has E w3 [R] := (hH4.front 1 rfl).first 1 rfl
          exact ⟨by rw [q21], hH22⟩
        · -- not: 4611686018427387904 ≤ gsn
          refine s_on 22 rfl (congrArg Value.bool (decide_eq_false h19)) (o_fieldAddr (k := 2) (fun _ => by kernel_rfl) rfl ?_)
          refine s_on 22 rfl (congrArg Value.bool (decide_eq_false h19)) (o_load1 (v := v_l) Tryz.underlying34 rfl rfl hH4 (seg_sub 0 rfl) (CellsAt.one rfl) ?_)
          refine s_on 22 rfl (congrArg Value.bool (decide_eq_false h19)) (o_lenS Tryz.underlying34 rfl h_l ?_)
          refine s_on 22 rfl (congrArg Value.bool (decide_eq_false h19)) (o_gtr (a := ((l.length : Nat) : Int)) (b := 8) rfl rfl ?_)
          refine s_op (o_pick_f (u := (.bool (decide (8 < ((l.length : Nat) : Int))))) ((rfl : _ = _).trans (congrArg Value.bool (decide_eq_false h19))) rfl ?_)
          refine s_nil ?_
          refine t_norm (hK6 _ _ ?_)
          refine c_cond rfl (fun h23 => ?_) (fun h23 => ?_)
          · -- 8 < ((l.length : Nat) : Int)
            refine wp_seq_k fun K24 hK24 => ?_
            refine c_region ?_
            refine s_op (o_assign (v := (.bool false)) rfl ?_)
            refine s_nil ?_
            refine t_norm (hK24 _ _ ?_)
            refine wp_ret ?_
            refine t_ret (c_ret1 Tryz.results17  (v := (.bool false)) rfl ?_)
            have q25 : (pageR no gsn l) = false := by exact pageR_no (by first | exact .inl (by omega) | exact .inr (by omega))
            have hH26 : Has E w3 [R] := (hH4.front 1 rfl).first 1 rfl
            exact ⟨by rw [q25], hH26⟩
          · -- not: 8 < ((l.length : Nat) : Int)
            refine wp_skip ?_
            refine t_norm (hK5 _ _ ?_)
            refine wp_seq_k fun K27 hK27 => ?_
            refine wp_seq_k fun K28 hK28 => ?_
            refine c_region ?_
            refine s_op (o_assign (v := (.int .i64 0)) rfl ?_)
            refine s_nil ?_
            refine t_norm (hK28 _ _ ?_)
            refine wp_block ?_
            let I30 : Nat → (Nat → Value) → World → Prop := fun n__ r__ w__ => ∃ (k : Nat), n__ = l.length - k ∧ Has E w__ [[Hp.one b2 (.cells #[(.int .i64 no), (.int .i64 gsn), v_l] 36 (0, 0))], R] ∧ (k ≤ l.length) ∧ ((l.take k).all celOk = true) ∧ (Rises (l.take k)) ∧ r__ 0 = (.agg #[(.int .i64 no), (.int .i64 gsn), v_l]) ∧ r__ 1 = (.pointer (some ⟨b2, 0, none⟩)) ∧ r__ 3 = (.int .i64 (k : Int)) ∧ r__ 27 = (.bool (decide (8 < ((l.length : Nat) : Int))))
            refine c_loop I30 _ ⟨0, rfl, hH4, Nat.zero_le _, rfl, List.Pairwise.nil, rfl, rfl, rfl, rfl⟩ ?_
            rintro n_ r33 w31 ⟨k, rfl, hH32, hk, ha, hr, e29_0, e29_1, e29_3, e29_27⟩
            refine wp_seq_k fun K34 hK34 => ?_
            refine wp_seq_k fun K35 hK35 => ?_
            refine c_region ?_
            refine s_op (o_move (v := (.int .i64 (k : Int))) e29_3 ?_)
            refine s_op (o_fieldAddr (k := 2) (fun _ => by kernel_rfl) e29_1 ?_)
            refine s_op (o_load1 (v := v_l) Tryz.underlying34 rfl rfl hH32 (seg_sub 0 rfl) (CellsAt.one rfl) ?_)
            refine s_op (o_lenS Tryz.underlying34 rfl h_l ?_)
            refine s_op (o_lss (a := (k : Int)) (b := ((l.length : Nat) : Int)) rfl rfl ?_)
            refine s_nil ?_
            refine t_norm (hK35 _ _ ?_)
            refine c_cond rfl (fun h36 => ?_) (fun h36 => ?_)
            · -- (k : Int) < ((l.length : Nat) : Int)
              refine wp_skip ?_
              refine t_norm (hK34 _ _ ?_)
              refine wp_seq_k fun K37 hK37 => ?_
              refine wp_block ?_
              refine wp_seq_k fun K38 hK38 => ?_
              refine Rest.region mixed (by kernel_rfl) ?_
              have hH39 : Has E { w31 with drawn := w31.drawn + 1 } [[Hp.one b2 (.cells #[(.int .i64 no), (.int .i64 gsn), v_l] 36 (0, 0))], R] := Has0.drew hH32 _
              refine Rest.phaseA (fun w_ => Has E w_ [[Hp.one b2 (.cells #[(.int .i64 no), (.int .i64 gsn), v_l] 36 (0, 0))]]) 0 3 3 rfl (by decide) (by kernel_rfl) ?_
              refine a_op 0 rfl (by kernel_rfl) (fun w_ h_ => o_fieldAddr (k := 2) (fun _ => by kernel_rfl) e29_1 ⟨rfl, rfl⟩) ?_
              refine a_op 1 rfl (by kernel_rfl) (fun w_ h_ => o_load1 (v := v_l) Tryz.underlying34 rfl rfl h_ (seg_sub 0 rfl) (CellsAt.one rfl) ⟨rfl, rfl⟩) ?_
              refine a_op 2 rfl (by kernel_rfl) (fun w_ h_ => o_move (v := (.int .i64 (k : Int))) e29_3 ⟨rfl, rfl⟩) ?_
              have hH40 : Has E { w31 with drawn := w31.drawn + 1 } [[Hp.one b2 (.cells #[(.int .i64 no), (.int .i64 gsn), v_l] 36 (0, 0))]] := hH39.first 1 rfl
              refine a_done (by kernel_rfl) hH40 ?_
              obtain ⟨x44, hx45⟩ : ∃ x_, l[((k : Int)).toNat]? = some x_ := get_some (by omega)
              refine r_op 3 rfl (by kernel_rfl) (o_indexF ceC_len Tryz.underlying34 ti70 rfl h_l rfl rfl (by omega) hx45 fun b41 o42 hc43 => ?_)
              refine r_op 4 rfl (by kernel_rfl) (o_fieldAddr (k := o42) (fun _ => by kernel_rfl) rfl ?_)
              refine r_op 5 rfl (by kernel_rfl) (o_load1 (v := (S x44.1)) Tryz.underlying9 rfl rfl hH39 (seg_sub 1 rfl) (CellsAt.field (k := 0) (ds := [(S x44.1)]) hc43 rfl) ?_)
              refine r_op 6 rfl (by kernel_rfl) (o_callf (vs := #[(S x44.1)]) ca55 rfl (args1 rfl) (rkey_c (k := x44.1) hH39.all ) ?_)
              rintro _ w48 ⟨rfl, hX46⟩
              refine ⟨_, rfl, ?_⟩
              have hH47 := hX46.of_all
              refine r_op 7 rfl (by kernel_rfl) (o_not rfl ?_)
              refine r_op 8 rfl (by kernel_rfl) (o_move (v := (.bool (!(keyR x44.1)))) rfl ?_)
              refine Rest.phaseA (fun w_ => Has E w_ [[Hp.one b2 (.cells #[(.int .i64 no), (.int .i64 gsn), v_l] 36 (0, 0))]]) 9 12 3 rfl (by decide) (by kernel_rfl) ?_
              rcases Bool.eq_false_or_eq_true (!(keyR x44.1)) with h49 | h49
              · -- !(keyR x44.1)
                refine a_off (b' := true) 9 rfl (by kernel_rfl) 43 rfl (congrArg Value.bool h49) rfl ?_
                refine a_off (b' := true) 10 rfl (by kernel_rfl) 43 rfl (congrArg Value.bool h49) rfl ?_
                refine a_off (b' := true) 11 rfl (by kernel_rfl) 43 rfl (congrArg Value.bool h49) rfl ?_
                have hH50 : Has E w48 [[Hp.one b2 (.cells #[(.int .i64 no), (.int .i64 gsn), v_l] 36 (0, 0))]] := hH47.first 1 rfl
                refine a_done (by kernel_rfl) hH50 ?_
                refine r_off (b' := true) 12 rfl (by kernel_rfl) 43 rfl (congrArg Value.bool h49) rfl ?_
                refine r_off (b' := true) 13 rfl (by kernel_rfl) 43 rfl (congrArg Value.bool h49) rfl ?_
                refine r_off (b' := true) 14 rfl (by kernel_rfl) 43 rfl (congrArg Value.bool h49) rfl ?_
                refine r_off (b' := true) 15 rfl (by kernel_rfl) 43 rfl (congrArg Value.bool h49) rfl ?_
                refine r_off (b' := true) 16 rfl (by kernel_rfl) 43 rfl (congrArg Value.bool h49) rfl ?_
                refine r_op 17 rfl (by kernel_rfl) (o_pick_t (u := (.bool true)) ((rfl : _ = _).trans (congrArg Value.bool h49)) rfl ?_)
                refine r_op 18 rfl (by kernel_rfl) (o_move (v := (.bool true)) rfl ?_)
                refine r_off (b' := true) 19 rfl (by kernel_rfl) 53 rfl rfl rfl ?_
                refine r_off (b' := true) 20 rfl (by kernel_rfl) 53 rfl rfl rfl ?_
                refine r_off (b' := true) 21 rfl (by kernel_rfl) 53 rfl rfl rfl ?_
                refine Rest.phaseA (fun w_ => Has E w_ []) 22 35 13 rfl (by decide) (by kernel_rfl) ?_
                refine a_offu 22 rfl (by kernel_rfl) 56 rfl rfl ?_
                refine a_offu 23 rfl (by kernel_rfl) 56 rfl rfl ?_
                refine a_offu 24 rfl (by kernel_rfl) 56 rfl rfl ?_
                refine a_offu 25 rfl (by kernel_rfl) 56 rfl rfl ?_
                refine a_offu 26 rfl (by kernel_rfl) 56 rfl rfl ?_
                refine a_offu 27 rfl (by kernel_rfl) 56 rfl rfl ?_
                refine a_offu 28 rfl (by kernel_rfl) 56 rfl rfl ?_
                refine a_offu 29 rfl (by kernel_rfl) 56 rfl rfl ?_
                refine a_offu 30 rfl (by kernel_rfl) 56 rfl rfl ?_
                refine a_offu 31 rfl (by kernel_rfl) 56 rfl rfl ?_
                refine a_offu 32 rfl (by kernel_rfl) 56 rfl rfl ?_
                refine a_offu 33 rfl (by kernel_rfl) 56 rfl rfl ?_
                refine a_offu 34 rfl (by kernel_rfl) 56 rfl rfl ?_
                have hH51 : Has E w48 [] := hH47.first 0 rfl
                refine a_done (by kernel_rfl) hH51 ?_
                refine r_offu 35 rfl (by kernel_rfl) 56 rfl rfl ?_
                refine r_off (b' := true) 36 rfl (by kernel_rfl) 53 rfl rfl rfl ?_
                refine r_op 37 rfl (by kernel_rfl) (o_pick_t (u := (.bool true)) rfl rfl ?_)
                refine Rest.done (by kernel_rfl) ?_
                refine t_norm (hK38 _ _ ?_)
                refine c_true rfl rfl ?_
                refine wp_seq_k fun K52 hK52 => ?_
                refine c_region ?_
                refine s_op (o_assign (v := (.bool false)) rfl ?_)
                refine s_nil ?_
                refine t_norm (hK52 _ _ ?_)
                refine wp_ret ?_
                refine b_ret (t_ret (t_ret (b_ret (t_ret (c_ret1 Tryz.results17  (v := (.bool false)) rfl ?_)))))
                have q53 : (pageR no gsn l) = false := by exact pageR_nc (cells_no1 hx45 (by simp only [celOk]; rw [show keyR x44.1 = false by simpa using h49]; rfl))
                have hH54 : Has E w48 [R] := (hH47.front 1 rfl).first 1 rfl
                exact ⟨by rw [q53], hH54⟩
              · -- not: !(keyR x44.1)
                refine a_on 9 rfl (by kernel_rfl) 43 rfl (congrArg Value.bool h49) (fun w_ h_ => o_fieldAddr (k := 2) (fun _ => by kernel_rfl) e29_1 ⟨rfl, rfl⟩) ?_
                refine a_on 10 rfl (by kernel_rfl) 43 rfl (congrArg Value.bool h49) (fun w_ h_ => o_load1 (v := v_l) Tryz.underlying34 rfl rfl h_ (seg_sub 0 rfl) (CellsAt.one rfl) ⟨rfl, rfl⟩) ?_
                refine a_on 11 rfl (by kernel_rfl) 43 rfl (congrArg Value.bool h49) (fun w_ h_ => o_move (v := (.int .i64 (k : Int))) e29_3 ⟨rfl, rfl⟩) ?_
                have hH55 : Has E w48 [[Hp.one b2 (.cells #[(.int .i64 no), (.int .i64 gsn), v_l] 36 (0, 0))]] := hH47.first 1 rfl
                refine a_done (by kernel_rfl) hH55 ?_
                refine r_on 12 rfl (by kernel_rfl) 43 rfl (congrArg Value.bool h49) (o_indexF ceC_len Tryz.underlying34 ti70 rfl h_l rfl rfl (by omega) hx45 fun b56 o57 hc58 => ?_)
                refine r_on 13 rfl (by kernel_rfl) 43 rfl (congrArg Value.bool h49) (o_fieldAddr (k := o57 + 1) (fun _ => by kernel_rfl) rfl ?_)
                refine r_on 14 rfl (by kernel_rfl) 43 rfl (congrArg Value.bool h49) (o_load1 (v := (S x44.2)) Tryz.underlying9 rfl rfl hH47 (seg_sub 1 rfl) (CellsAt.field (k := 1) (ds := [(S x44.2)]) hc58 rfl) ?_)
                refine r_on 15 rfl (by kernel_rfl) 43 rfl (congrArg Value.bool h49) (o_slen Tryz.underlying9 rfl ?_)
                refine r_on 16 rfl (by kernel_rfl) 43 rfl (congrArg Value.bool h49) (o_gtr (a := (x44.2.length : Int)) (b := 16) rfl rfl ?_)
                refine r_op 17 rfl (by kernel_rfl) (o_pick_f (u := (.bool (decide (16 < (x44.2.length : Int))))) ((rfl : _ = _).trans (congrArg Value.bool h49)) rfl ?_)
                refine r_op 18 rfl (by kernel_rfl) (o_move (v := (.bool (decide (16 < (x44.2.length : Int))))) rfl ?_)
                by_cases h59 : 16 < (x44.2.length : Int)
                · -- 16 < (x44.2.length : Int)
                  refine r_off (b' := true) 19 rfl (by kernel_rfl) 53 rfl (congrArg Value.bool (decide_eq_true h59)) rfl ?_
                  refine r_off (b' := true) 20 rfl (by kernel_rfl) 53 rfl (congrArg Value.bool (decide_eq_true h59)) rfl ?_
                  refine r_off (b' := true) 21 rfl (by kernel_rfl) 53 rfl (congrArg Value.bool (decide_eq_true h59)) rfl ?_
                  refine Rest.phaseA (fun w_ => Has E w_ []) 22 35 13 rfl (by decide) (by kernel_rfl) ?_
                  refine a_offu 22 rfl (by kernel_rfl) 56 rfl rfl ?_
                  refine a_offu 23 rfl (by kernel_rfl) 56 rfl rfl ?_
                  refine a_offu 24 rfl (by kernel_rfl) 56 rfl rfl ?_
                  refine a_offu 25 rfl (by kernel_rfl) 56 rfl rfl ?_
                  refine a_offu 26 rfl (by kernel_rfl) 56 rfl rfl ?_
                  refine a_offu 27 rfl (by kernel_rfl) 56 rfl rfl ?_
                  refine a_offu 28 rfl (by kernel_rfl) 56 rfl rfl ?_
                  refine a_offu 29 rfl (by kernel_rfl) 56 rfl rfl ?_
                  refine a_offu 30 rfl (by kernel_rfl) 56 rfl rfl ?_
                  refine a_offu 31 rfl (by kernel_rfl) 56 rfl rfl ?_
                  refine a_offu 32 rfl (by kernel_rfl) 56 rfl rfl ?_
                  refine a_offu 33 rfl (by kernel_rfl) 56 rfl rfl ?_
                  refine a_offu 34 rfl (by kernel_rfl) 56 rfl rfl ?_
                  have hH60 : Has E w48 [] := hH47.first 0 rfl
                  refine a_done (by kernel_rfl) hH60 ?_
                  refine r_offu 35 rfl (by kernel_rfl) 56 rfl rfl ?_
                  refine r_off (b' := true) 36 rfl (by kernel_rfl) 53 rfl (congrArg Value.bool (decide_eq_true h59)) rfl ?_
                  refine r_op 37 rfl (by kernel_rfl) (o_pick_t (u := (.bool true)) ((rfl : _ = _).trans (congrArg Value.bool (decide_eq_true h59))) rfl ?_)
                  refine Rest.done (by kernel_rfl) ?_
                  refine t_norm (hK38 _ _ ?_)
                  refine c_true rfl rfl ?_
                  refine wp_seq_k fun K61 hK61 => ?_
                  refine c_region ?_
                  refine s_op (o_assign (v := (.bool false)) rfl ?_)
                  refine s_nil ?_
                  refine t_norm (hK61 _ _ ?_)
                  refine wp_ret ?_
                  refine b_ret (t_ret (t_ret (b_ret (t_ret (c_ret1 Tryz.results17  (v := (.bool false)) rfl ?_)))))
                  have q62 : (pageR no gsn l) = false := by exact pageR_nc (cells_no1 hx45 (by simp only [celOk]; rw [show valR (true, x44.2) = false by unfold valR; simp; omega]; simp))
                  have hH63 : Has E w48 [R] := (hH47.front 1 rfl).first 1 rfl
                  exact ⟨by rw [q62], hH63⟩
                · -- not: 16 < (x44.2.length : Int)
                  refine r_on 19 rfl (by kernel_rfl) 53 rfl (congrArg Value.bool (decide_eq_false h59)) (o_move (v := (.int .i64 (k : Int))) e29_3 ?_)
                  refine r_on 20 rfl (by kernel_rfl) 53 rfl (congrArg Value.bool (decide_eq_false h59)) (o_gtr (a := (k : Int)) (b := 0) rfl rfl ?_)
                  refine r_on 21 rfl (by kernel_rfl) 53 rfl (congrArg Value.bool (decide_eq_false h59)) (o_move (v := (.bool (decide (0 < (k : Int))))) rfl ?_)
                  refine Rest.phaseA (fun w_ => Has E w_ [[Hp.one b2 (.cells #[(.int .i64 no), (.int .i64 gsn), v_l] 36 (0, 0))], R]) 22 35 13 rfl (by decide) (by kernel_rfl) ?_
                  by_cases h64 : 0 < (k : Int)
                  · -- 0 < (k : Int)
                    refine a_on 22 rfl (by kernel_rfl) 56 rfl (congrArg Value.bool (decide_eq_true h64)) (fun w_ h_ => o_fieldAddr (k := 2) (fun _ => by kernel_rfl) e29_1 ⟨rfl, rfl⟩) ?_
                    refine a_on 23 rfl (by kernel_rfl) 56 rfl (congrArg Value.bool (decide_eq_true h64)) (fun w_ h_ => o_load1 (v := v_l) Tryz.underlying34 rfl rfl h_ (seg_sub 0 rfl) (CellsAt.one rfl) ⟨rfl, rfl⟩) ?_
                    refine a_on 24 rfl (by kernel_rfl) 56 rfl (congrArg Value.bool (decide_eq_true h64)) (fun w_ h_ => o_move (v := (.int .i64 (k : Int))) e29_3 ⟨rfl, rfl⟩) ?_
                    refine a_on 25 rfl (by kernel_rfl) 56 rfl (congrArg Value.bool (decide_eq_true h64)) (fun w_ h_ => o_sub (a := (k : Int)) (b := 1) rfl rfl (w64 (by omega) (by omega)) ⟨rfl, rfl⟩) ?_
                    obtain ⟨x68, hx69⟩ : ∃ x_, l[((k : Int) - 1).toNat]? = some x_ := get_some (by omega)
                    obtain ⟨b65, o66, hc67, ho70⟩ := ix_exF ceC_len Tryz.underlying34 ti70 h_l (by omega) hx69
                    refine a_on 26 rfl (by kernel_rfl) 56 rfl (congrArg Value.bool (decide_eq_true h64)) (fun w_ h_ => ho70 rfl rfl ⟨rfl, rfl⟩) ?_
                    refine a_on 27 rfl (by kernel_rfl) 56 rfl (congrArg Value.bool (decide_eq_true h64)) (fun w_ h_ => o_fieldAddr (k := o66) (fun _ => by kernel_rfl) rfl ⟨rfl, rfl⟩) ?_
                    refine a_on 28 rfl (by kernel_rfl) 56 rfl (congrArg Value.bool (decide_eq_true h64)) (fun w_ h_ => o_load1 (v := (S x68.1)) Tryz.underlying9 rfl rfl h_ (seg_sub 1 rfl) (CellsAt.field (k := 0) (ds := [(S x68.1)]) hc67 rfl) ⟨rfl, rfl⟩) ?_
                    refine a_on 29 rfl (by kernel_rfl) 56 rfl (congrArg Value.bool (decide_eq_true h64)) (fun w_ h_ => o_fieldAddr (k := 2) (fun _ => by kernel_rfl) e29_1 ⟨rfl, rfl⟩) ?_
                    refine a_on 30 rfl (by kernel_rfl) 56 rfl (congrArg Value.bool (decide_eq_true h64)) (fun w_ h_ => o_load1 (v := v_l) Tryz.underlying34 rfl rfl h_ (seg_sub 0 rfl) (CellsAt.one rfl) ⟨rfl, rfl⟩) ?_
                    refine a_on 31 rfl (by kernel_rfl) 56 rfl (congrArg Value.bool (decide_eq_true h64)) (fun w_ h_ => o_move (v := (.int .i64 (k : Int))) e29_3 ⟨rfl, rfl⟩) ?_
                    obtain ⟨b71, o72, hc73, ho74⟩ := ix_exF ceC_len Tryz.underlying34 ti70 h_l (by omega) hx45
                    refine a_on 32 rfl (by kernel_rfl) 56 rfl (congrArg Value.bool (decide_eq_true h64)) (fun w_ h_ => ho74 rfl rfl ⟨rfl, rfl⟩) ?_
                    refine a_on 33 rfl (by kernel_rfl) 56 rfl (congrArg Value.bool (decide_eq_true h64)) (fun w_ h_ => o_fieldAddr (k := o72) (fun _ => by kernel_rfl) rfl ⟨rfl, rfl⟩) ?_
                    refine a_on 34 rfl (by kernel_rfl) 56 rfl (congrArg Value.bool (decide_eq_true h64)) (fun w_ h_ => o_load1 (v := (S x44.1)) Tryz.underlying9 rfl rfl h_ (seg_sub 1 rfl) (CellsAt.field (k := 0) (ds := [(S x44.1)]) hc73 rfl) ⟨rfl, rfl⟩) ?_
                    refine a_done (by kernel_rfl) hH47 ?_
                    refine r_on 35 rfl (by kernel_rfl) 56 rfl (congrArg Value.bool (decide_eq_true h64)) (o_sgeP (a := x68.1) (b := x44.1) rfl rfl ?_)
                    refine r_on 36 rfl (by kernel_rfl) 53 rfl (congrArg Value.bool (decide_eq_false h59)) (o_pick_t (u := (.bool (decide (¬ (x68.1 < x44.1))))) ((rfl : _ = _).trans (congrArg Value.bool (decide_eq_true h64))) rfl ?_)
                    refine r_op 37 rfl (by kernel_rfl) (o_pick_f (u := (.bool (decide (¬ (x68.1 < x44.1))))) ((rfl : _ = _).trans (congrArg Value.bool (decide_eq_false h59))) rfl ?_)
                    refine Rest.done (by kernel_rfl) ?_
                    refine t_norm (hK38 _ _ ?_)
                    refine c_cond rfl (fun h75 => ?_) (fun h75 => ?_)
                    · -- ¬ (x68.1 < x44.1)
                      refine wp_seq_k fun K76 hK76 => ?_
                      refine c_region ?_
                      refine s_op (o_assign (v := (.bool false)) rfl ?_)
                      refine s_nil ?_
                      refine t_norm (hK76 _ _ ?_)
                      refine wp_ret ?_
                      refine b_ret (t_ret (t_ret (b_ret (t_ret (c_ret1 Tryz.results17  (v := (.bool false)) rfl ?_)))))
                      have q77 : (pageR no gsn l) = false := by exact pageR_nc (cells_no2 (k := k) (by omega) hx45 (by rw [show k - 1 = ((k : Int) - 1).toNat by omega]; exact hx69) h75)
                      have hH78 : Has E w48 [R] := (hH47.front 1 rfl).first 1 rfl
                      exact ⟨by rw [q77], hH78⟩
                    · -- not: ¬ (x68.1 < x44.1)
                      refine wp_skip ?_
                      refine b_norm ?_
                      refine t_norm (hK37 _ _ ?_)
                      refine c_region ?_
                      refine s_op (o_move (v := (.int .i64 (k : Int))) e29_3 ?_)
                      refine s_op (o_add (a := (k : Int)) (b := 1) rfl rfl (w64 (by omega) (by omega)) ?_)
                      refine s_op (o_assign (v := (.int .i64 ((k : Int) + 1))) rfl ?_)
                      refine s_nil ?_
                      refine t_norm ⟨l.length - (k + 1), _, rfl, ?_, ?_⟩
                      · omega
                      · exact ⟨(k + 1), rfl, hH47, (by omega), (all_next (show l[k]? = some _ from hx45) ha (by simp only [celOk, Bool.and_eq_true]; exact ⟨by simpa using h49, by unfold valR; simp; omega⟩)), (cells_next (show l[k]? = some _ from hx45) hr (fun p h0 hp => by (have e_ := hp.symm.trans (show l[k - 1]? = some _ from by rw [show k - 1 = ((k : Int) - 1).toNat by omega]; exact hx69); cases e_; exact Classical.not_not.1 h75))), e29_0, e29_1, rfl, e29_27⟩
                  · -- not: 0 < (k : Int)
                    refine a_off (b' := false) 22 rfl (by kernel_rfl) 56 rfl (congrArg Value.bool (decide_eq_false h64)) rfl ?_
                    refine a_off (b' := false) 23 rfl (by kernel_rfl) 56 rfl (congrArg Value.bool (decide_eq_false h64)) rfl ?_
                    refine a_off (b' := false) 24 rfl (by kernel_rfl) 56 rfl (congrArg Value.bool (decide_eq_false h64)) rfl ?_
                    refine a_off (b' := false) 25 rfl (by kernel_rfl) 56 rfl (congrArg Value.bool (decide_eq_false h64)) rfl ?_
                    refine a_off (b' := false) 26 rfl (by kernel_rfl) 56 rfl (congrArg Value.bool (decide_eq_false h64)) rfl ?_
                    refine a_off (b' := false) 27 rfl (by kernel_rfl) 56 rfl (congrArg Value.bool (decide_eq_false h64)) rfl ?_
                    refine a_off (b' := false) 28 rfl (by kernel_rfl) 56 rfl (congrArg Value.bool (decide_eq_false h64)) rfl ?_
                    refine a_off (b' := false) 29 rfl (by kernel_rfl) 56 rfl (congrArg Value.bool (decide_eq_false h64)) rfl ?_
                    refine a_off (b' := false) 30 rfl (by kernel_rfl) 56 rfl (congrArg Value.bool (decide_eq_false h64)) rfl ?_
                    refine a_off (b' := false) 31 rfl (by kernel_rfl) 56 rfl (congrArg Value.bool (decide_eq_false h64)) rfl ?_
                    refine a_off (b' := false) 32 rfl (by kernel_rfl) 56 rfl (congrArg Value.bool (decide_eq_false h64)) rfl ?_
                    refine a_off (b' := false) 33 rfl (by kernel_rfl) 56 rfl (congrArg Value.bool (decide_eq_false h64)) rfl ?_
                    refine a_off (b' := false) 34 rfl (by kernel_rfl) 56 rfl (congrArg Value.bool (decide_eq_false h64)) rfl ?_
                    refine a_done (by kernel_rfl) hH47 ?_
                    refine r_off (b' := false) 35 rfl (by kernel_rfl) 56 rfl (congrArg Value.bool (decide_eq_false h64)) rfl ?_
                    refine r_on 36 rfl (by kernel_rfl) 53 rfl (congrArg Value.bool (decide_eq_false h59)) (o_pick_f (u := (.bool false)) ((rfl : _ = _).trans (congrArg Value.bool (decide_eq_false h64))) rfl ?_)
                    refine r_op 37 rfl (by kernel_rfl) (o_pick_f (u := (.bool false)) ((rfl : _ = _).trans (congrArg Value.bool (decide_eq_false h59))) rfl ?_)
                    refine Rest.done (by kernel_rfl) ?_
                    refine t_norm (hK38 _ _ ?_)
                    refine c_false rfl rfl ?_
                    refine wp_skip ?_
                    refine b_norm ?_
                    refine t_norm (hK37 _ _ ?_)
                    refine c_region ?_
                    refine s_op (o_move (v := (.int .i64 (k : Int))) e29_3 ?_)
                    refine s_op (o_add (a := (k : Int)) (b := 1) rfl rfl (w64 (by omega) (by omega)) ?_)
                    refine s_op (o_assign (v := (.int .i64 ((k : Int) + 1))) rfl ?_)
                    refine s_nil ?_
                    refine t_norm ⟨l.length - (k + 1), _, rfl, ?_, ?_⟩
                    · omega
                    · exact ⟨(k + 1), rfl, hH47, (by omega), (all_next (show l[k]? = some _ from hx45) ha (by simp only [celOk, Bool.and_eq_true]; exact ⟨by simpa using h49, by unfold valR; simp; omega⟩)), (cells_next (show l[k]? = some _ from hx45) hr (fun p h0 _ => absurd h0 (by omega))), e29_0, e29_1, rfl, e29_27⟩
            · -- not: (k : Int) < ((l.length : Nat) : Int)
              refine wp_exit ?_
              refine t_exit (t_exit (x_in (?_)))
              refine t_norm (hK27 _ _ ?_)
              refine wp_seq_k fun K79 hK79 => ?_
              refine c_region ?_
              refine s_op (o_assign (v := (.bool true)) rfl ?_)
              refine s_nil ?_
              refine t_norm (hK79 _ _ ?_)
              refine wp_ret ?_
              refine c_ret1 Tryz.results17  (v := (.bool true)) rfl ?_
              have q80 : (pageR no gsn l) = true := by (have e_ : k = l.length := by omega); rw [e_, List.take_length] at ha hr; exact (pageR_iff.2 ⟨by omega, by rw [cells_end ha hr]; exact decide_eq_true (by omega)⟩)
              have hH81 : Has E w31 [R] := (hH32.front 1 rfl).first 1 rfl
              exact ⟨by rw [q80], hH81⟩
end Go.Q
namespace Go.Q
open Go.Proofs
set_option linter.unusedVariables false
set_option maxRecDepth 100000
attribute [local irreducible] wpList OK Code.wp
set_option maxHeartbeats 4000000 in
theorem rvalue_c {E w : World} {R : List Hp} {v : Bool × Bs}  (hH : Has E w [R]) :
    Calls Tryz.prog 74 #[(.agg #[(.bool v.1), (S v.2)])] w fun e w' => e = .returned (.bool (valR v)) ∧ Has E w' [R] := by
  refine c_enter (args := [(.agg #[(.bool v.1), (S v.2)])]) Tryz.func74 rfl Tryz.ntmps74 (by simp) ?_
  refine wp_seq_k fun K1 hK1 => ?_
  refine c_region ?_
  refine s_op (o_box (cs := #[(.bool v.1), (S v.2)]) rfl rfl hH fun b2 w3 hH4 => ?_)
  refine s_op (o_assign (v := (.bool false)) rfl ?_)
  refine s_nil ?_
  refine t_norm (hK1 _ _ ?_)
  refine wp_seq_k fun K5 hK5 => ?_
  refine c_region ?_
  refine s_op (o_fieldAddr (k := 1) (fun _ => by kernel_rfl) rfl ?_)
  refine s_op (o_load1 (v := (S v.2)) Tryz.underlying9 rfl rfl hH4 (seg_sub 0 rfl) (CellsAt.one rfl) ?_)
  refine s_op (o_slen Tryz.underlying9 rfl ?_)
  refine s_op (o_leq (a := (v.2.length : Int)) (b := 16) rfl rfl ?_)
  refine s_op (o_move (v := (.bool (decide ((v.2.length : Int) ≤ 16)))) rfl ?_)
  by_cases h6 : (v.2.length : Int) ≤ 16
  · -- (v.2.length : Int) ≤ 16
    refine s_on 7 rfl (congrArg Value.bool (decide_eq_true h6)) (o_fieldAddr (k := 0) (fun _ => by kernel_rfl) rfl ?_)
    refine s_on 7 rfl (congrArg Value.bool (decide_eq_true h6)) (o_load1 (v := (.bool v.1)) Tryz.underlying4 rfl rfl hH4 (seg_sub 0 rfl) (CellsAt.one rfl) ?_)
    refine s_on 7 rfl (congrArg Value.bool (decide_eq_true h6)) (o_move (v := (.bool v.1)) rfl ?_)
    rcases Bool.eq_false_or_eq_true v.1 with h7 | h7
    · -- v.1
      refine s_off (b' := true) 10 rfl (congrArg Value.bool h7) rfl ?_
      refine s_off (b' := true) 10 rfl (congrArg Value.bool h7) rfl ?_
      refine s_off (b' := true) 10 rfl (congrArg Value.bool h7) rfl ?_
      refine s_on 7 rfl (congrArg Value.bool (decide_eq_true h6)) (o_pick_t (u := (.bool true)) ((rfl : _ = _).trans (congrArg Value.bool h7)) rfl ?_)
      refine s_op (o_pick_t (u := (.bool true)) ((rfl : _ = _).trans (congrArg Value.bool (decide_eq_true h6))) rfl ?_)
      refine s_op (o_assign (v := (.bool true)) rfl ?_)
      refine s_nil ?_
      refine t_norm (hK5 _ _ ?_)
      refine wp_ret ?_
      refine c_ret1 Tryz.results74  (v := (.bool true)) rfl ?_
      have q8 : (valR v) = true := by unfold valR; simp [h6, h7]
      have hH9 : Has E w3 [R] := (hH4.front 1 rfl).first 1 rfl
      exact ⟨by rw [q8], hH9⟩
    · -- not: v.1
      refine s_on 10 rfl (congrArg Value.bool h7) (o_fieldAddr (k := 1) (fun _ => by kernel_rfl) rfl ?_)
      refine s_on 10 rfl (congrArg Value.bool h7) (o_load1 (v := (S v.2)) Tryz.underlying9 rfl rfl hH4 (seg_sub 0 rfl) (CellsAt.one rfl) ?_)
      refine s_on 10 rfl (congrArg Value.bool h7) (o_seql (a := v.2) (b := ([] : List UInt8)) rfl rfl ?_)
      refine s_on 7 rfl (congrArg Value.bool (decide_eq_true h6)) (o_pick_f (u := (.bool (decide (v.2 = ([] : List UInt8))))) ((rfl : _ = _).trans (congrArg Value.bool h7)) rfl ?_)
      refine s_op (o_pick_t (u := (.bool (decide (v.2 = ([] : List UInt8))))) ((rfl : _ = _).trans (congrArg Value.bool (decide_eq_true h6))) rfl ?_)
      refine s_op (o_assign (v := (.bool (decide (v.2 = ([] : List UInt8))))) rfl ?_)
      refine s_nil ?_
      refine t_norm (hK5 _ _ ?_)
      refine wp_ret ?_
      refine c_ret1 Tryz.results74  (v := (.bool (decide (v.2 = ([] : List UInt8))))) rfl ?_
      have q10 : (valR v) = decide (v.2 = ([] : List UInt8)) := by unfold valR; simp [h6, h7]
      have hH11 : Has E w3 [R] := (hH4.front 1 rfl).first 1 rfl
      exact ⟨by rw [q10], hH11⟩
  · -- not: (v.2.length : Int) ≤ 16
    refine s_off (b' := false) 7 rfl (congrArg Value.bool (decide_eq_false h6)) rfl ?_
    refine s_off (b' := false) 7 rfl (congrArg Value.bool (decide_eq_false h6)) rfl ?_
    refine s_off (b' := false) 7 rfl (congrArg Value.bool (decide_eq_false h6)) rfl ?_
    refine s_offu 10 rfl rfl ?_
    refine s_offu 10 rfl rfl ?_
    refine s_offu 10 rfl rfl ?_
    refine s_off (b' := false) 7 rfl (congrArg Value.bool (decide_eq_false h6)) rfl ?_
    refine s_op (o_pick_f (u := (.bool false)) ((rfl : _ = _).trans (congrArg Value.bool (decide_eq_false h6))) rfl ?_)
    refine s_op (o_assign (v := (.bool false)) rfl ?_)
    refine s_nil ?_
    refine t_norm (hK5 _ _ ?_)
    refine wp_ret ?_
    refine c_ret1 Tryz.results74  (v := (.bool false)) rfl ?_
    have q12 : (valR v) = false := by unfold valR; simp [h6]
    have hH13 : Has E w3 [R] := (hH4.front 1 rfl).first 1 rfl
    exact ⟨by rw [q12], hH13⟩
set_option maxHeartbeats 4000000 in
theorem r11get_c {E w : World} {R : List Hp} {no : Int} {gsn : Int} {v_l : Value} {l : List Cel} {key : Bs}  (hH : Has E w [R]) (h_l : Sl R 2 v_l l.length (l.flatMap ceC)) :
    Calls Tryz.prog 73 #[(.agg #[(.int .i64 no), (.int .i64 gsn), v_l]), (S key)] w fun e w' => e = .returned (.agg #[(.bool ((getC l key).1)), (S ((getC l key).2))]) ∧ Has E w' [R] := by
  have hn_ := h_l.le
  refine c_enter (args := [(.agg #[(.int .i64 no), (.int .i64 gsn), v_l]), (S key)]) Tryz.func73 rfl Tryz.ntmps73 (by simp) ?_
  refine wp_seq_k fun K1 hK1 => ?_
  refine c_region ?_
  refine s_op (o_box (cs := #[(.int .i64 no), (.int .i64 gsn), v_l]) rfl rfl hH fun b2 w3 hH4 => ?_)
  refine s_op (o_alloc (cs := #[(.bool false), (S ([] : List UInt8))]) ti62 rfl hH4 fun b5 w6 hH7 => ?_)
  refine s_nil ?_
  refine t_norm (hK1 _ _ ?_)
  refine wp_seq_k fun K8 hK8 => ?_
  refine wp_seq_k fun K9 hK9 => ?_
  refine c_region ?_
  refine s_op (o_assign (v := (.int .i64 0)) rfl ?_)
  refine s_nil ?_
  refine t_norm (hK9 _ _ ?_)
  refine wp_block ?_
  let I11 : Nat → (Nat → Value) → World → Prop := fun n__ r__ w__ => ∃ (k : Nat), n__ = l.length - k ∧ Has E w__ [[Hp.one b5 (.cells #[(.bool false), (S ([] : List UInt8))] 62 (0, 0))], [Hp.one b2 (.cells #[(.int .i64 no), (.int .i64 gsn), v_l] 36 (0, 0))], R] ∧ (k ≤ l.length) ∧ (getC l key = getC (l.drop k) key) ∧ r__ 0 = (.agg #[(.int .i64 no), (.int .i64 gsn), v_l]) ∧ r__ 1 = (S key) ∧ r__ 2 = (.pointer (some ⟨b2, 0, none⟩)) ∧ r__ 4 = (.pointer (some ⟨b5, 0, none⟩)) ∧ r__ 5 = (.int .i64 (k : Int))
  refine c_loop I11 _ ⟨0, rfl, hH7, Nat.zero_le _, rfl, rfl, rfl, rfl, rfl, rfl⟩ ?_
  rintro n_ r14 w12 ⟨k, rfl, hH13, hk, hg, e10_0, e10_1, e10_2, e10_4, e10_5⟩
  refine wp_seq_k fun K15 hK15 => ?_
  refine wp_seq_k fun K16 hK16 => ?_
  refine c_region ?_
  refine s_op (o_move (v := (.int .i64 (k : Int))) e10_5 ?_)
  refine s_op (o_fieldAddr (k := 2) (fun _ => by kernel_rfl) e10_2 ?_)
  refine s_op (o_load1 (v := v_l) Tryz.underlying34 rfl rfl hH13 (seg_sub 1 rfl) (CellsAt.one rfl) ?_)
  refine s_op (o_lenS Tryz.underlying34 rfl h_l ?_)
  refine s_op (o_lss (a := (k : Int)) (b := ((l.length : Nat) : Int)) rfl rfl ?_)
  refine s_nil ?_
  refine t_norm (hK16 _ _ ?_)
  refine c_cond rfl (fun h17 => ?_) (fun h17 => ?_)
  · -- (k : Int) < ((l.length : Nat) : Int)
    refine wp_skip ?_
    refine t_norm (hK15 _ _ ?_)
    refine wp_seq_k fun K18 hK18 => ?_
    refine wp_block ?_
    refine wp_seq_k fun K19 hK19 => ?_
    refine c_region ?_
    refine s_op (o_fieldAddr (k := 2) (fun _ => by kernel_rfl) e10_2 ?_)
    refine s_op (o_load1 (v := v_l) Tryz.underlying34 rfl rfl hH13 (seg_sub 1 rfl) (CellsAt.one rfl) ?_)
    refine s_op (o_move (v := (.int .i64 (k : Int))) e10_5 ?_)
    obtain ⟨x23, hx24⟩ : ∃ x_, l[((k : Int)).toNat]? = some x_ := get_some (by omega)
    refine s_op (o_indexF ceC_len Tryz.underlying34 ti70 rfl h_l rfl rfl (by omega) hx24 fun b20 o21 hc22 => ?_)
    refine s_op (o_fieldAddr (k := o21) (fun _ => by kernel_rfl) rfl ?_)
    refine s_op (o_load1 (v := (S x23.1)) Tryz.underlying9 rfl rfl hH13 (seg_sub 2 rfl) (CellsAt.field (k := 0) (ds := [(S x23.1)]) hc22 rfl) ?_)
    refine s_op (o_move (v := (S key)) e10_1 ?_)
    refine s_op (o_seql (a := x23.1) (b := key) rfl rfl ?_)
    refine s_nil ?_
    refine t_norm (hK19 _ _ ?_)
    refine c_cond rfl (fun h25 => ?_) (fun h25 => ?_)
    · -- x23.1 = key
      refine wp_seq_k fun K26 hK26 => ?_
      refine c_region ?_
      refine s_op (o_fieldAddr (k := 2) (fun _ => by kernel_rfl) e10_2 ?_)
      refine s_op (o_load1 (v := v_l) Tryz.underlying34 rfl rfl hH13 (seg_sub 1 rfl) (CellsAt.one rfl) ?_)
      refine s_op (o_move (v := (.int .i64 (k : Int))) e10_5 ?_)
      refine s_op (o_indexF ceC_len Tryz.underlying34 ti70 rfl h_l rfl rfl (by omega) hx24 fun b27 o28 hc29 => ?_)
      refine s_op (o_fieldAddr (k := o28 + 1) (fun _ => by kernel_rfl) rfl ?_)
      refine s_op (o_load1 (v := (S x23.2)) Tryz.underlying9 rfl rfl hH13 (seg_sub 2 rfl) (CellsAt.field (k := 1) (ds := [(S x23.2)]) hc29 rfl) ?_)
      refine s_op (o_sight (v := (.agg #[(.bool true), (S x23.2)])) (fun _ => by kernel_rfl) ?_)
      refine s_eff (o_storeN (vs := [(.bool true), (S x23.2)]) (c' := #[(.bool true), (S x23.2)]) ti62 e10_4 rfl rfl rfl (by intro u hu; simp only [List.mem_cons, List.not_mem_nil, or_false] at hu; rcases hu with rfl | rfl <;> first | rfl) (by simp) (by kernel_rfl) (hH13.front 0 rfl) fun w30 hH31 => ?_)
      refine s_nil ?_
      refine t_norm (hK26 _ _ ?_)
      refine wp_ret ?_
      refine b_ret (t_ret (t_ret (b_ret (t_ret (c_retC1 Tryz.results73 e10_4 (run_loadVarN (cs := [(.bool true), (S x23.2)]) Tryz.underlying62 rfl ti62 hH31 (seg_sub 0 rfl) (CellsAt.one rfl)) ?_)))))
      have q32 : (getC l key) = (true, x23.2) := by rw [getC_hit hg (show l[k]? = some _ from hx24) h25]
      have hH33 : Has E w30 [R] := (hH31.front 2 rfl).first 1 rfl
      exact ⟨by rw [q32], hH33⟩
    · -- not: x23.1 = key
      refine wp_skip ?_
      refine b_norm ?_
      refine t_norm (hK18 _ _ ?_)
      refine c_region ?_
      refine s_op (o_move (v := (.int .i64 (k : Int))) e10_5 ?_)
      refine s_op (o_add (a := (k : Int)) (b := 1) rfl rfl (w64 (by omega) (by omega)) ?_)
      refine s_op (o_assign (v := (.int .i64 ((k : Int) + 1))) rfl ?_)
      refine s_nil ?_
      refine t_norm ⟨l.length - (k + 1), _, rfl, ?_, ?_⟩
      · omega
      · exact ⟨(k + 1), rfl, hH13, (by omega), (getC_skip hg (show l[k]? = some _ from hx24) h25), e10_0, e10_1, e10_2, e10_4, rfl⟩
  · -- not: (k : Int) < ((l.length : Nat) : Int)
    refine wp_exit ?_
    refine t_exit (t_exit (x_in (?_)))
    refine t_norm (hK8 _ _ ?_)
    refine wp_seq_k fun K34 hK34 => ?_
    refine c_region ?_
    refine s_op (o_sight (v := (.agg #[(.bool false), (S ([] : List UInt8))])) (fun _ => by kernel_rfl) ?_)
    refine s_eff (o_storeN (vs := [(.bool false), (S ([] : List UInt8))]) (c' := #[(.bool false), (S ([] : List UInt8))]) ti62 e10_4 rfl rfl rfl (by intro u hu; simp only [List.mem_cons, List.not_mem_nil, or_false] at hu; rcases hu with rfl | rfl <;> first | rfl) (by simp) (by kernel_rfl) (hH13.front 0 rfl) fun w35 hH36 => ?_)
    refine s_nil ?_
    refine t_norm (hK34 _ _ ?_)
    refine wp_ret ?_
    refine c_retC1 Tryz.results73 e10_4 (run_loadVarN (cs := [(.bool false), (S ([] : List UInt8))]) Tryz.underlying62 rfl ti62 hH36 (seg_sub 0 rfl) (CellsAt.one rfl)) ?_
    have q37 : (getC l key) = (false, ([] : List UInt8)) := by rw [getC_end hg (by omega)]
    have hH38 : Has E w35 [R] := (hH36.front 2 rfl).first 1 rfl
    exact ⟨by rw [q37], hH38⟩
set_option maxHeartbeats 4000000 in
theorem r11put_c {E w : World} {R : List Hp} {no : Int} {gsn : Int} {v_l : Value} {l : List Cel} {key : Bs} {v : Bool × Bs} {g : Int}  (hH : Has E w [R]) (h_l : Sl R 2 v_l l.length (l.flatMap ceC)) (hn : l.length ≤ 1000) :
    Calls Tryz.prog 75 #[(.agg #[(.int .i64 no), (.int .i64 gsn), v_l]), (S key), (.agg #[(.bool v.1), (S v.2)]), (.int .i64 g)] w fun e w' => ∃ (v1' : Value) (s2' : List Hp), e = .returned (.agg #[(.int .i64 no), (.int .i64 g), v1']) ∧ (Own 70 2 v1' (putL key v.2 (!v.1) l).length ((putL key v.2 (!v.1) l).flatMap ceC) s2') ∧ Has E w' [s2', R] := by
  refine c_enter (args := [(.agg #[(.int .i64 no), (.int .i64 gsn), v_l]), (S key), (.agg #[(.bool v.1), (S v.2)]), (.int .i64 g)]) Tryz.func75 rfl Tryz.ntmps75 (by simp) ?_
  refine wp_seq_k fun K1 hK1 => ?_
  refine c_region ?_
  refine s_op (o_box (cs := #[(.int .i64 no), (.int .i64 gsn), v_l]) rfl rfl hH fun b2 w3 hH4 => ?_)
  refine s_op (o_box (cs := #[(.bool v.1), (S v.2)]) rfl rfl hH4 fun b5 w6 hH7 => ?_)
  refine s_op (o_alloc (cs := #[(.int .i64 0), (.int .i64 0), (.slice none 0 0)]) ti36 rfl hH7 fun b8 w9 hH10 => ?_)
  refine s_nil ?_
  refine t_norm (hK1 _ _ ?_)
  refine wp_seq_k fun K11 hK11 => ?_
  refine c_region ?_
  refine s_op (o_fieldAddr (k := 0) (fun _ => by kernel_rfl) rfl ?_)
  refine s_op (o_load1 (v := (.int .i64 no)) Tryz.underlying3 rfl rfl hH10 (seg_sub 2 rfl) (CellsAt.one rfl) ?_)
  refine s_op (o_move (v := (.int .i64 g)) rfl ?_)
  refine s_op (o_sight (v := (.agg #[(.int .i64 no), (.int .i64 g), (.slice none 0 0)])) (fun _ => by kernel_rfl) ?_)
  refine s_op (o_alloc (cs := #[(.int .i64 0), (.int .i64 0), (.slice none 0 0)]) ti36 rfl hH10 fun b12 w13 hH14 => ?_)
  refine s_eff (o_storeN (vs := [(.int .i64 no), (.int .i64 g), (.slice none 0 0)]) (c' := #[(.int .i64 no), (.int .i64 g), (.slice none 0 0)]) ti36 rfl rfl rfl rfl (by intro u hu; simp only [List.mem_cons, List.not_mem_nil, or_false] at hu; rcases hu with rfl | rfl | rfl <;> first | rfl) (by simp) (by kernel_rfl) (hH14.front 0 rfl) fun w15 hH16 => ?_)
  refine s_nil ?_
  refine t_norm (hK11 _ _ ?_)
  refine wp_seq_k fun K17 hK17 => ?_
  refine c_region ?_
  refine s_op (o_fieldAddr (k := 0) (fun _ => by kernel_rfl) rfl ?_)
  refine s_op (o_load1 (v := (.bool v.1)) Tryz.underlying4 rfl rfl hH16 (seg_sub 2 rfl) (CellsAt.one rfl) ?_)
  refine s_op (o_not rfl ?_)
  refine s_op (o_assign (v := (.bool (!v.1))) rfl ?_)
  refine s_nil ?_
  refine t_norm (hK17 _ _ ?_)
  refine wp_seq_k fun K18 hK18 => ?_
  refine wp_seq_k fun K19 hK19 => ?_
  refine c_region ?_
  refine s_op (o_assign (v := (.int .i64 0)) rfl ?_)
  refine s_nil ?_
  refine t_norm (hK19 _ _ ?_)
  refine wp_block ?_
  let I21 : Nat → (Nat → Value) → World → Prop := fun n__ r__ w__ => ∃ (k : Nat) (d : Bool) (vo : Value) (so : List Hp) (out : List Cel), n__ = l.length - k ∧ Has E w__ [so, [Hp.one b12 (.cells #[(.int .i64 no), (.int .i64 g), vo] 36 (0, 0))], [Hp.one b8 (.cells #[(.int .i64 0), (.int .i64 0), (.slice none 0 0)] 36 (0, 0))], [Hp.one b5 (.cells #[(.bool v.1), (S v.2)] 62 (0, 0))], [Hp.one b2 (.cells #[(.int .i64 no), (.int .i64 gsn), v_l] 36 (0, 0))], R] ∧ (k ≤ l.length) ∧ (Own 70 2 vo out.length (out.flatMap ceC) so) ∧ (out.length ≤ 2 * k) ∧ ((putL key v.2 (!v.1) l) = out ++ putL key v.2 d (l.drop k)) ∧ r__ 0 = (.agg #[(.int .i64 no), (.int .i64 gsn), v_l]) ∧ r__ 1 = (S key) ∧ r__ 2 = (.agg #[(.bool v.1), (S v.2)]) ∧ r__ 3 = (.int .i64 g) ∧ r__ 4 = (.pointer (some ⟨b2, 0, none⟩)) ∧ r__ 6 = (.pointer (some ⟨b5, 0, none⟩)) ∧ r__ 8 = (.pointer (some ⟨b8, 0, none⟩)) ∧ r__ 9 = (.pointer (some ⟨b12, 0, none⟩)) ∧ r__ 10 = (.bool d) ∧ r__ 11 = (.int .i64 (k : Int))
  have hH22 : Has E w15 [[], [Hp.one b12 (.cells #[(.int .i64 no), (.int .i64 g), (.slice none 0 0)] 36 (0, 0))], [Hp.one b8 (.cells #[(.int .i64 0), (.int .i64 0), (.slice none 0 0)] 36 (0, 0))], [Hp.one b5 (.cells #[(.bool v.1), (S v.2)] 62 (0, 0))], [Hp.one b2 (.cells #[(.int .i64 no), (.int .i64 gsn), v_l] 36 (0, 0))], R] := Has.pick (Has.nil hH16) [0, 0, 0, 0, 0, 0] (by kernel_rfl)
  refine c_loop I21 _ ⟨0, (!v.1), (.slice none 0 0), [], [], rfl, hH22, Nat.zero_le _, Own.nil 70 2, Nat.le_refl _, rfl, rfl, rfl, rfl, rfl, rfl, rfl, rfl, rfl, rfl, rfl⟩ ?_
  rintro n_ r25 w23 ⟨k, d, vo, so, out, rfl, hH24, hk, hoo, hol, hf, e20_0, e20_1, e20_2, e20_3, e20_4, e20_6, e20_8, e20_9, e20_10, e20_11⟩
  refine wp_seq_k fun K26 hK26 => ?_
  refine wp_seq_k fun K27 hK27 => ?_
  refine c_region ?_
  refine s_op (o_move (v := (.int .i64 (k : Int))) e20_11 ?_)
  refine s_op (o_fieldAddr (k := 2) (fun _ => by kernel_rfl) e20_4 ?_)
  refine s_op (o_load1 (v := v_l) Tryz.underlying34 rfl rfl hH24 (seg_sub 4 rfl) (CellsAt.one rfl) ?_)
  refine s_op (o_lenS Tryz.underlying34 rfl h_l ?_)
  refine s_op (o_lss (a := (k : Int)) (b := ((l.length : Nat) : Int)) rfl rfl ?_)
  refine s_nil ?_
  refine t_norm (hK27 _ _ ?_)
  refine c_cond rfl (fun h28 => ?_) (fun h28 => ?_)
  · -- (k : Int) < ((l.length : Nat) : Int)
    refine wp_skip ?_
    refine t_norm (hK26 _ _ ?_)
    refine wp_seq_k fun K29 hK29 => ?_
    refine wp_block ?_
    refine wp_seq_k fun K30 hK30 => ?_
    refine wp_seq_k fun K31 hK31 => ?_
    refine c_region ?_
    refine s_op (o_move (v := (.bool d)) e20_10 ?_)
    refine s_op (o_not rfl ?_)
    refine s_op (o_move (v := (.bool (!d))) rfl ?_)
    rcases Bool.eq_false_or_eq_true (!d) with h32 | h32
    · -- !d
      refine s_on 28 rfl (congrArg Value.bool h32) (o_fieldAddr (k := 2) (fun _ => by kernel_rfl) e20_4 ?_)
      refine s_on 28 rfl (congrArg Value.bool h32) (o_load1 (v := v_l) Tryz.underlying34 rfl rfl hH24 (seg_sub 4 rfl) (CellsAt.one rfl) ?_)
      refine s_on 28 rfl (congrArg Value.bool h32) (o_move (v := (.int .i64 (k : Int))) e20_11 ?_)
      obtain ⟨x36, hx37⟩ : ∃ x_, l[((k : Int)).toNat]? = some x_ := get_some (by omega)
      refine s_on 28 rfl (congrArg Value.bool h32) (o_indexF ceC_len Tryz.underlying34 ti70 rfl h_l rfl rfl (by omega) hx37 fun b33 o34 hc35 => ?_)
      refine s_on 28 rfl (congrArg Value.bool h32) (o_fieldAddr (k := o34) (fun _ => by kernel_rfl) rfl ?_)
      refine s_on 28 rfl (congrArg Value.bool h32) (o_load1 (v := (S x36.1)) Tryz.underlying9 rfl rfl hH24 (seg_sub 5 rfl) (CellsAt.field (k := 0) (ds := [(S x36.1)]) hc35 rfl) ?_)
      refine s_on 28 rfl (congrArg Value.bool h32) (o_move (v := (S key)) e20_1 ?_)
      refine s_on 28 rfl (congrArg Value.bool h32) (o_sgeP (a := x36.1) (b := key) rfl rfl ?_)
      refine s_op (o_pick_t (u := (.bool (decide (¬ (x36.1 < key))))) ((rfl : _ = _).trans (congrArg Value.bool h32)) rfl ?_)
      refine s_nil ?_
      refine t_norm (hK31 _ _ ?_)
      refine c_cond rfl (fun h38 => ?_) (fun h38 => ?_)
      · -- ¬ (x36.1 < key)
        refine wp_seq_k fun K39 hK39 => ?_
        refine c_region ?_
        refine s_op (o_fieldAddr (k := 2) (fun _ => by kernel_rfl) e20_9 ?_)
        refine s_op (o_load1 (v := vo) Tryz.underlying34 rfl rfl hH24 (seg_sub 1 rfl) (CellsAt.one rfl) ?_)
        refine s_op (o_move (v := (S key)) e20_1 ?_)
        refine s_op (o_fieldAddr (k := 1) (fun _ => by kernel_rfl) e20_6 ?_)
        refine s_op (o_load1 (v := (S v.2)) Tryz.underlying9 rfl rfl hH24 (seg_sub 3 rfl) (CellsAt.one rfl) ?_)
        refine s_op (o_sight (v := (.agg #[(S key), (S v.2)])) (fun _ => by kernel_rfl) ?_)
        refine s_op (o_buildSlice (ps := #[(0, (.agg #[(S key), (S v.2)]))]) (cells := #[(S key), (S v.2)]) Tryz.underlying34 ti70 (by decide) (parts1 rfl) (by kernel_rfl) hH24 fun b40 w41 hH42 => ?_)
        refine s_op (o_append Tryz.underlying34 ti70 rfl (by decide) rfl hoo rfl (sl_litF (f := ceC) (l := [((key, v.2) : Cel)]) ceC_len rfl rfl (by simp)) (hH42.front 1 rfl) (seg_sub 0 rfl) (one_ceC _) (by simp; omega) (by simp; omega) fun v43 s44 w46 ho45 hH47 => ?_)
        have ho45 : Own 70 2 v43 (out ++ [((key, v.2) : Cel)]).length ((out ++ [((key, v.2) : Cel)]).flatMap ceC) s44 := ho45.appF
        refine s_op (o_fieldAddr (k := 2) (fun _ => by kernel_rfl) e20_9 ?_)
        refine s_eff (o_store1 (c' := #[(.int .i64 no), (.int .i64 g), v43]) ti34 rfl rfl ho45.one (by simp) rfl (hH47.front 2 rfl) fun w48 hH49 => ?_)
        refine s_nil ?_
        refine t_norm (hK39 _ _ ?_)
        refine c_region ?_
        refine s_op (o_assign (v := (.bool true)) rfl ?_)
        refine s_nil ?_
        refine t_norm (hK30 _ _ ?_)
        refine wp_seq_k fun K50 hK50 => ?_
        refine c_region ?_
        refine s_op (o_fieldAddr (k := 2) (fun _ => by kernel_rfl) e20_4 ?_)
        refine s_op (o_load1 (v := v_l) Tryz.underlying34 rfl rfl hH49 (seg_sub 5 rfl) (CellsAt.one rfl) ?_)
        refine s_op (o_move (v := (.int .i64 (k : Int))) e20_11 ?_)
        refine s_op (o_indexF ceC_len Tryz.underlying34 ti70 rfl h_l rfl rfl (by omega) hx37 fun b51 o52 hc53 => ?_)
        refine s_op (o_fieldAddr (k := o52) (fun _ => by kernel_rfl) rfl ?_)
        refine s_op (o_load1 (v := (S x36.1)) Tryz.underlying9 rfl rfl hH49 (seg_sub 6 rfl) (CellsAt.field (k := 0) (ds := [(S x36.1)]) hc53 rfl) ?_)
        refine s_op (o_move (v := (S key)) e20_1 ?_)
        refine s_op (o_sneq (a := x36.1) (b := key) rfl rfl ?_)
        refine s_nil ?_
        refine t_norm (hK50 _ _ ?_)
        refine c_cond rfl (fun h54 => ?_) (fun h54 => ?_)
        · -- x36.1 ≠ key
          refine Rest.region mixed (by kernel_rfl) ?_
          have hH55 : Has E { w48 with drawn := w48.drawn + 1 } [[Hp.one b12 (.cells #[(.int .i64 no), (.int .i64 g), v43] 36 (0, 0))], s44, [Hp.one b40 (.cells #[(S key), (S v.2)] 70 (0, 0))], [Hp.one b8 (.cells #[(.int .i64 0), (.int .i64 0), (.slice none 0 0)] 36 (0, 0))], [Hp.one b5 (.cells #[(.bool v.1), (S v.2)] 62 (0, 0))], [Hp.one b2 (.cells #[(.int .i64 no), (.int .i64 gsn), v_l] 36 (0, 0))], R] := Has0.drew hH49 _
          refine Rest.phaseA (fun w_ => Has E w_ [[Hp.one b12 (.cells #[(.int .i64 no), (.int .i64 g), v43] 36 (0, 0))], [Hp.one b2 (.cells #[(.int .i64 no), (.int .i64 gsn), v_l] 36 (0, 0))], R]) 0 8 8 rfl (by decide) (by kernel_rfl) ?_
          refine a_op 0 rfl (by kernel_rfl) (fun w_ h_ => o_fieldAddr (k := 2) (fun _ => by kernel_rfl) e20_9 ⟨rfl, rfl⟩) ?_
          refine a_op 1 rfl (by kernel_rfl) (fun w_ h_ => o_load1 (v := v43) Tryz.underlying34 rfl rfl h_ (seg_sub 0 rfl) (CellsAt.one rfl) ⟨rfl, rfl⟩) ?_
          refine a_op 2 rfl (by kernel_rfl) (fun w_ h_ => o_fieldAddr (k := 2) (fun _ => by kernel_rfl) e20_4 ⟨rfl, rfl⟩) ?_
          refine a_op 3 rfl (by kernel_rfl) (fun w_ h_ => o_load1 (v := v_l) Tryz.underlying34 rfl rfl h_ (seg_sub 1 rfl) (CellsAt.one rfl) ⟨rfl, rfl⟩) ?_
          refine a_op 4 rfl (by kernel_rfl) (fun w_ h_ => o_move (v := (.int .i64 (k : Int))) e20_11 ⟨rfl, rfl⟩) ?_
          obtain ⟨b56, o57, hc58, ho59⟩ := ix_exF ceC_len Tryz.underlying34 ti70 h_l (by omega) hx37
          refine a_op 5 rfl (by kernel_rfl) (fun w_ h_ => ho59 rfl rfl ⟨rfl, rfl⟩) ?_
          refine a_op 6 rfl (by kernel_rfl) (fun w_ h_ => o_loadN (cs := [(S x36.1), (S x36.2)]) Tryz.underlying70 rfl ti70 rfl h_ (seg_sub 2 rfl) hc58 ⟨rfl, rfl⟩) ?_
          have hH60 : Has E { w48 with drawn := w48.drawn + 1 } [[Hp.one b12 (.cells #[(.int .i64 no), (.int .i64 g), v43] 36 (0, 0))], [Hp.one b2 (.cells #[(.int .i64 no), (.int .i64 gsn), v_l] 36 (0, 0))], R] := (((hH55.front 6 rfl).front 6 rfl).front 2 rfl).first 3 rfl
          refine a_w 7 rfl (by kernel_rfl) hH60 (o_buildSlice (ps := #[(0, (.agg #[(S x36.1), (S x36.2)]))]) (cells := #[(S x36.1), (S x36.2)]) Tryz.underlying34 ti70 (by decide) (parts1 rfl) (by kernel_rfl) hH55 fun b61 w62 hH63 => ?_)
          have hH64 : Has E w62 [[Hp.one b12 (.cells #[(.int .i64 no), (.int .i64 g), v43] 36 (0, 0))], [Hp.one b2 (.cells #[(.int .i64 no), (.int .i64 gsn), v_l] 36 (0, 0))], R] := (((hH63.front 7 rfl).front 7 rfl).front 3 rfl).first 3 rfl
          refine a_done (by kernel_rfl) hH64 ?_
          refine r_op 8 rfl (by kernel_rfl) (o_append Tryz.underlying34 ti70 rfl (by decide) rfl ho45 rfl (sl_litF (f := ceC) (l := [x36]) ceC_len rfl rfl (by simp)) (hH63.front 2 rfl) (seg_sub 0 rfl) (one_ceC _) (by simp; omega) (by simp; omega) fun v65 s66 w68 ho67 hH69 => ?_)
          have ho67 : Own 70 2 v65 ((out ++ [((key, v.2) : Cel)]) ++ [x36]).length (((out ++ [((key, v.2) : Cel)]) ++ [x36]).flatMap ceC) s66 := ho67.appF
          refine r_op 9 rfl (by kernel_rfl) (o_fieldAddr (k := 2) (fun _ => by kernel_rfl) e20_9 ?_)
          refine r_eff 10 rfl (by kernel_rfl) (o_store1 (c' := #[(.int .i64 no), (.int .i64 g), v65]) ti34 rfl rfl ho67.one (by simp) rfl (hH69.front 2 rfl) fun w70 hH71 => ?_)
          refine Rest.done (by kernel_rfl) ?_
          refine b_norm ?_
          refine t_norm (hK29 _ _ ?_)
          refine c_region ?_
          refine s_op (o_move (v := (.int .i64 (k : Int))) e20_11 ?_)
          refine s_op (o_add (a := (k : Int)) (b := 1) rfl rfl (w64 (by omega) (by omega)) ?_)
          refine s_op (o_assign (v := (.int .i64 ((k : Int) + 1))) rfl ?_)
          refine s_nil ?_
          have hH72 : Has E w70 [s66, [Hp.one b12 (.cells #[(.int .i64 no), (.int .i64 g), v65] 36 (0, 0))], [Hp.one b8 (.cells #[(.int .i64 0), (.int .i64 0), (.slice none 0 0)] 36 (0, 0))], [Hp.one b5 (.cells #[(.bool v.1), (S v.2)] 62 (0, 0))], [Hp.one b2 (.cells #[(.int .i64 no), (.int .i64 gsn), v_l] 36 (0, 0))], R] := Has.pick hH71 [1, 0, 2, 2, 2, 2] (by kernel_rfl)
          refine t_norm ⟨l.length - (k + 1), _, rfl, ?_, ?_⟩
          · omega
          · exact ⟨(k + 1), true, v65, s66, ((out ++ [((key, v.2) : Cel)]) ++ [x36]), rfl, hH72, (by omega), (ho67), (by first | omega | (simp only [List.length_append, List.length_cons, List.length_nil]; omega)), (by ((have h_ := putL_step hf (show l[k]? = some _ from hx37)); (have hd_ : d = false := by simpa using h32); (try subst hd_); (have hl_ : ¬ x36.1 < key := by simpa using h38); simpa [hl_, h54] using h_)), e20_0, e20_1, e20_2, e20_3, e20_4, e20_6, e20_8, e20_9, rfl, rfl⟩
        · -- not: x36.1 ≠ key
          refine wp_skip ?_
          refine b_norm ?_
          refine t_norm (hK29 _ _ ?_)
          refine c_region ?_
          refine s_op (o_move (v := (.int .i64 (k : Int))) e20_11 ?_)
          refine s_op (o_add (a := (k : Int)) (b := 1) rfl rfl (w64 (by omega) (by omega)) ?_)
          refine s_op (o_assign (v := (.int .i64 ((k : Int) + 1))) rfl ?_)
          refine s_nil ?_
          have hH73 : Has E w48 [s44, [Hp.one b12 (.cells #[(.int .i64 no), (.int .i64 g), v43] 36 (0, 0))], [Hp.one b8 (.cells #[(.int .i64 0), (.int .i64 0), (.slice none 0 0)] 36 (0, 0))], [Hp.one b5 (.cells #[(.bool v.1), (S v.2)] 62 (0, 0))], [Hp.one b2 (.cells #[(.int .i64 no), (.int .i64 gsn), v_l] 36 (0, 0))], R] := Has.pick hH49 [1, 0, 1, 1, 1, 1] (by kernel_rfl)
          refine t_norm ⟨l.length - (k + 1), _, rfl, ?_, ?_⟩
          · omega
          · exact ⟨(k + 1), true, v43, s44, (out ++ [((key, v.2) : Cel)]), rfl, hH73, (by omega), (ho45), (by first | omega | (simp only [List.length_append, List.length_cons, List.length_nil]; omega)), (by ((have h_ := putL_step hf (show l[k]? = some _ from hx37)); (have hd_ : d = false := by simpa using h32); (try subst hd_); (have hl_ : ¬ x36.1 < key := by simpa using h38); simpa [hl_, h54] using h_)), e20_0, e20_1, e20_2, e20_3, e20_4, e20_6, e20_8, e20_9, rfl, rfl⟩
      · -- not: ¬ (x36.1 < key)
        refine wp_skip ?_
        refine t_norm (hK30 _ _ ?_)
        refine wp_seq_k fun K74 hK74 => ?_
        refine c_region ?_
        refine s_op (o_fieldAddr (k := 2) (fun _ => by kernel_rfl) e20_4 ?_)
        refine s_op (o_load1 (v := v_l) Tryz.underlying34 rfl rfl hH24 (seg_sub 4 rfl) (CellsAt.one rfl) ?_)
        refine s_op (o_move (v := (.int .i64 (k : Int))) e20_11 ?_)
        refine s_op (o_indexF ceC_len Tryz.underlying34 ti70 rfl h_l rfl rfl (by omega) hx37 fun b75 o76 hc77 => ?_)
        refine s_op (o_fieldAddr (k := o76) (fun _ => by kernel_rfl) rfl ?_)
        refine s_op (o_load1 (v := (S x36.1)) Tryz.underlying9 rfl rfl hH24 (seg_sub 5 rfl) (CellsAt.field (k := 0) (ds := [(S x36.1)]) hc77 rfl) ?_)
        refine s_op (o_move (v := (S key)) e20_1 ?_)
        refine s_op (o_sneq (a := x36.1) (b := key) rfl rfl ?_)
        refine s_nil ?_
        refine t_norm (hK74 _ _ ?_)
        refine c_cond rfl (fun h78 => ?_) (fun h78 => ?_)
        · -- x36.1 ≠ key
          refine Rest.region mixed (by kernel_rfl) ?_
          have hH79 : Has E { w23 with drawn := w23.drawn + 1 } [so, [Hp.one b12 (.cells #[(.int .i64 no), (.int .i64 g), vo] 36 (0, 0))], [Hp.one b8 (.cells #[(.int .i64 0), (.int .i64 0), (.slice none 0 0)] 36 (0, 0))], [Hp.one b5 (.cells #[(.bool v.1), (S v.2)] 62 (0, 0))], [Hp.one b2 (.cells #[(.int .i64 no), (.int .i64 gsn), v_l] 36 (0, 0))], R] := Has0.drew hH24 _
          refine Rest.phaseA (fun w_ => Has E w_ [[Hp.one b12 (.cells #[(.int .i64 no), (.int .i64 g), vo] 36 (0, 0))], [Hp.one b2 (.cells #[(.int .i64 no), (.int .i64 gsn), v_l] 36 (0, 0))], R]) 0 8 8 rfl (by decide) (by kernel_rfl) ?_
          refine a_op 0 rfl (by kernel_rfl) (fun w_ h_ => o_fieldAddr (k := 2) (fun _ => by kernel_rfl) e20_9 ⟨rfl, rfl⟩) ?_
          refine a_op 1 rfl (by kernel_rfl) (fun w_ h_ => o_load1 (v := vo) Tryz.underlying34 rfl rfl h_ (seg_sub 0 rfl) (CellsAt.one rfl) ⟨rfl, rfl⟩) ?_
          refine a_op 2 rfl (by kernel_rfl) (fun w_ h_ => o_fieldAddr (k := 2) (fun _ => by kernel_rfl) e20_4 ⟨rfl, rfl⟩) ?_
          refine a_op 3 rfl (by kernel_rfl) (fun w_ h_ => o_load1 (v := v_l) Tryz.underlying34 rfl rfl h_ (seg_sub 1 rfl) (CellsAt.one rfl) ⟨rfl, rfl⟩) ?_
          refine a_op 4 rfl (by kernel_rfl) (fun w_ h_ => o_move (v := (.int .i64 (k : Int))) e20_11 ⟨rfl, rfl⟩) ?_
          obtain ⟨b80, o81, hc82, ho83⟩ := ix_exF ceC_len Tryz.underlying34 ti70 h_l (by omega) hx37
          refine a_op 5 rfl (by kernel_rfl) (fun w_ h_ => ho83 rfl rfl ⟨rfl, rfl⟩) ?_
          refine a_op 6 rfl (by kernel_rfl) (fun w_ h_ => o_loadN (cs := [(S x36.1), (S x36.2)]) Tryz.underlying70 rfl ti70 rfl h_ (seg_sub 2 rfl) hc82 ⟨rfl, rfl⟩) ?_
          have hH84 : Has E { w23 with drawn := w23.drawn + 1 } [[Hp.one b12 (.cells #[(.int .i64 no), (.int .i64 g), vo] 36 (0, 0))], [Hp.one b2 (.cells #[(.int .i64 no), (.int .i64 gsn), v_l] 36 (0, 0))], R] := (((hH79.front 5 rfl).front 5 rfl).front 3 rfl).first 3 rfl
          refine a_w 7 rfl (by kernel_rfl) hH84 (o_buildSlice (ps := #[(0, (.agg #[(S x36.1), (S x36.2)]))]) (cells := #[(S x36.1), (S x36.2)]) Tryz.underlying34 ti70 (by decide) (parts1 rfl) (by kernel_rfl) hH79 fun b85 w86 hH87 => ?_)
          have hH88 : Has E w86 [[Hp.one b12 (.cells #[(.int .i64 no), (.int .i64 g), vo] 36 (0, 0))], [Hp.one b2 (.cells #[(.int .i64 no), (.int .i64 gsn), v_l] 36 (0, 0))], R] := (((hH87.front 6 rfl).front 6 rfl).front 4 rfl).first 3 rfl
          refine a_done (by kernel_rfl) hH88 ?_
          refine r_op 8 rfl (by kernel_rfl) (o_append Tryz.underlying34 ti70 rfl (by decide) rfl hoo rfl (sl_litF (f := ceC) (l := [x36]) ceC_len rfl rfl (by simp)) (hH87.front 1 rfl) (seg_sub 0 rfl) (one_ceC _) (by simp; omega) (by simp; omega) fun v89 s90 w92 ho91 hH93 => ?_)
          have ho91 : Own 70 2 v89 (out ++ [x36]).length ((out ++ [x36]).flatMap ceC) s90 := ho91.appF
          refine r_op 9 rfl (by kernel_rfl) (o_fieldAddr (k := 2) (fun _ => by kernel_rfl) e20_9 ?_)
          refine r_eff 10 rfl (by kernel_rfl) (o_store1 (c' := #[(.int .i64 no), (.int .i64 g), v89]) ti34 rfl rfl ho91.one (by simp) rfl (hH93.front 2 rfl) fun w94 hH95 => ?_)
          refine Rest.done (by kernel_rfl) ?_
          refine b_norm ?_
          refine t_norm (hK29 _ _ ?_)
          refine c_region ?_
          refine s_op (o_move (v := (.int .i64 (k : Int))) e20_11 ?_)
          refine s_op (o_add (a := (k : Int)) (b := 1) rfl rfl (w64 (by omega) (by omega)) ?_)
          refine s_op (o_assign (v := (.int .i64 ((k : Int) + 1))) rfl ?_)
          refine s_nil ?_
          have hH96 : Has E w94 [s90, [Hp.one b12 (.cells #[(.int .i64 no), (.int .i64 g), v89] 36 (0, 0))], [Hp.one b8 (.cells #[(.int .i64 0), (.int .i64 0), (.slice none 0 0)] 36 (0, 0))], [Hp.one b5 (.cells #[(.bool v.1), (S v.2)] 62 (0, 0))], [Hp.one b2 (.cells #[(.int .i64 no), (.int .i64 gsn), v_l] 36 (0, 0))], R] := Has.pick hH95 [1, 0, 1, 1, 1, 1] (by kernel_rfl)
          refine t_norm ⟨l.length - (k + 1), _, rfl, ?_, ?_⟩
          · omega
          · exact ⟨(k + 1), d, v89, s90, (out ++ [x36]), rfl, hH96, (by omega), (ho91), (by first | omega | (simp only [List.length_append, List.length_cons, List.length_nil]; omega)), (by ((have h_ := putL_step hf (show l[k]? = some _ from hx37)); (have hd_ : d = false := by simpa using h32); (try subst hd_); (have hl_ : x36.1 < key := by simpa using h38); simpa [hl_, h78] using h_)), e20_0, e20_1, e20_2, e20_3, e20_4, e20_6, e20_8, e20_9, e20_10, rfl⟩
        · -- not: x36.1 ≠ key
          refine wp_skip ?_
          refine b_norm ?_
          refine t_norm (hK29 _ _ ?_)
          refine c_region ?_
          refine s_op (o_move (v := (.int .i64 (k : Int))) e20_11 ?_)
          refine s_op (o_add (a := (k : Int)) (b := 1) rfl rfl (w64 (by omega) (by omega)) ?_)
          refine s_op (o_assign (v := (.int .i64 ((k : Int) + 1))) rfl ?_)
          refine s_nil ?_
          refine t_norm ⟨l.length - (k + 1), _, rfl, ?_, ?_⟩
          · omega
          · exact ⟨(k + 1), d, vo, so, out, rfl, hH24, (by omega), (hoo), (by first | omega | (simp only [List.length_append, List.length_cons, List.length_nil]; omega)), (by ((have h_ := putL_step hf (show l[k]? = some _ from hx37)); (have hd_ : d = false := by simpa using h32); (try subst hd_); (have hl_ : x36.1 < key := by simpa using h38); simpa [hl_, h78] using h_)), e20_0, e20_1, e20_2, e20_3, e20_4, e20_6, e20_8, e20_9, e20_10, rfl⟩
    · -- not: !d
      refine s_off (b' := false) 28 rfl (congrArg Value.bool h32) rfl ?_
      refine s_off (b' := false) 28 rfl (congrArg Value.bool h32) rfl ?_
      refine s_off (b' := false) 28 rfl (congrArg Value.bool h32) rfl ?_
      refine s_off (b' := false) 28 rfl (congrArg Value.bool h32) rfl ?_
      refine s_off (b' := false) 28 rfl (congrArg Value.bool h32) rfl ?_
      refine s_off (b' := false) 28 rfl (congrArg Value.bool h32) rfl ?_
      refine s_off (b' := false) 28 rfl (congrArg Value.bool h32) rfl ?_
      refine s_off (b' := false) 28 rfl (congrArg Value.bool h32) rfl ?_
      refine s_op (o_pick_f (u := (.bool false)) ((rfl : _ = _).trans (congrArg Value.bool h32)) rfl ?_)
      refine s_nil ?_
      refine t_norm (hK31 _ _ ?_)
      refine c_false rfl rfl ?_
      refine wp_skip ?_
      refine t_norm (hK30 _ _ ?_)
      refine wp_seq_k fun K97 hK97 => ?_
      refine c_region ?_
      refine s_op (o_fieldAddr (k := 2) (fun _ => by kernel_rfl) e20_4 ?_)
      refine s_op (o_load1 (v := v_l) Tryz.underlying34 rfl rfl hH24 (seg_sub 4 rfl) (CellsAt.one rfl) ?_)
      refine s_op (o_move (v := (.int .i64 (k : Int))) e20_11 ?_)
      obtain ⟨x101, hx102⟩ : ∃ x_, l[((k : Int)).toNat]? = some x_ := get_some (by omega)
      refine s_op (o_indexF ceC_len Tryz.underlying34 ti70 rfl h_l rfl rfl (by omega) hx102 fun b98 o99 hc100 => ?_)
      refine s_op (o_fieldAddr (k := o99) (fun _ => by kernel_rfl) rfl ?_)
      refine s_op (o_load1 (v := (S x101.1)) Tryz.underlying9 rfl rfl hH24 (seg_sub 5 rfl) (CellsAt.field (k := 0) (ds := [(S x101.1)]) hc100 rfl) ?_)
      refine s_op (o_move (v := (S key)) e20_1 ?_)
      refine s_op (o_sneq (a := x101.1) (b := key) rfl rfl ?_)
      refine s_nil ?_
      refine t_norm (hK97 _ _ ?_)
      refine c_cond rfl (fun h103 => ?_) (fun h103 => ?_)
      · -- x101.1 ≠ key
        refine Rest.region mixed (by kernel_rfl) ?_
        have hH104 : Has E { w23 with drawn := w23.drawn + 1 } [so, [Hp.one b12 (.cells #[(.int .i64 no), (.int .i64 g), vo] 36 (0, 0))], [Hp.one b8 (.cells #[(.int .i64 0), (.int .i64 0), (.slice none 0 0)] 36 (0, 0))], [Hp.one b5 (.cells #[(.bool v.1), (S v.2)] 62 (0, 0))], [Hp.one b2 (.cells #[(.int .i64 no), (.int .i64 gsn), v_l] 36 (0, 0))], R] := Has0.drew hH24 _
        refine Rest.phaseA (fun w_ => Has E w_ [[Hp.one b12 (.cells #[(.int .i64 no), (.int .i64 g), vo] 36 (0, 0))], [Hp.one b2 (.cells #[(.int .i64 no), (.int .i64 gsn), v_l] 36 (0, 0))], R]) 0 8 8 rfl (by decide) (by kernel_rfl) ?_
        refine a_op 0 rfl (by kernel_rfl) (fun w_ h_ => o_fieldAddr (k := 2) (fun _ => by kernel_rfl) e20_9 ⟨rfl, rfl⟩) ?_
        refine a_op 1 rfl (by kernel_rfl) (fun w_ h_ => o_load1 (v := vo) Tryz.underlying34 rfl rfl h_ (seg_sub 0 rfl) (CellsAt.one rfl) ⟨rfl, rfl⟩) ?_
        refine a_op 2 rfl (by kernel_rfl) (fun w_ h_ => o_fieldAddr (k := 2) (fun _ => by kernel_rfl) e20_4 ⟨rfl, rfl⟩) ?_
        refine a_op 3 rfl (by kernel_rfl) (fun w_ h_ => o_load1 (v := v_l) Tryz.underlying34 rfl rfl h_ (seg_sub 1 rfl) (CellsAt.one rfl) ⟨rfl, rfl⟩) ?_
        refine a_op 4 rfl (by kernel_rfl) (fun w_ h_ => o_move (v := (.int .i64 (k : Int))) e20_11 ⟨rfl, rfl⟩) ?_
        obtain ⟨b105, o106, hc107, ho108⟩ := ix_exF ceC_len Tryz.underlying34 ti70 h_l (by omega) hx102
        refine a_op 5 rfl (by kernel_rfl) (fun w_ h_ => ho108 rfl rfl ⟨rfl, rfl⟩) ?_
        refine a_op 6 rfl (by kernel_rfl) (fun w_ h_ => o_loadN (cs := [(S x101.1), (S x101.2)]) Tryz.underlying70 rfl ti70 rfl h_ (seg_sub 2 rfl) hc107 ⟨rfl, rfl⟩) ?_
        have hH109 : Has E { w23 with drawn := w23.drawn + 1 } [[Hp.one b12 (.cells #[(.int .i64 no), (.int .i64 g), vo] 36 (0, 0))], [Hp.one b2 (.cells #[(.int .i64 no), (.int .i64 gsn), v_l] 36 (0, 0))], R] := (((hH104.front 5 rfl).front 5 rfl).front 3 rfl).first 3 rfl
        refine a_w 7 rfl (by kernel_rfl) hH109 (o_buildSlice (ps := #[(0, (.agg #[(S x101.1), (S x101.2)]))]) (cells := #[(S x101.1), (S x101.2)]) Tryz.underlying34 ti70 (by decide) (parts1 rfl) (by kernel_rfl) hH104 fun b110 w111 hH112 => ?_)
        have hH113 : Has E w111 [[Hp.one b12 (.cells #[(.int .i64 no), (.int .i64 g), vo] 36 (0, 0))], [Hp.one b2 (.cells #[(.int .i64 no), (.int .i64 gsn), v_l] 36 (0, 0))], R] := (((hH112.front 6 rfl).front 6 rfl).front 4 rfl).first 3 rfl
        refine a_done (by kernel_rfl) hH113 ?_
        refine r_op 8 rfl (by kernel_rfl) (o_append Tryz.underlying34 ti70 rfl (by decide) rfl hoo rfl (sl_litF (f := ceC) (l := [x101]) ceC_len rfl rfl (by simp)) (hH112.front 1 rfl) (seg_sub 0 rfl) (one_ceC _) (by simp; omega) (by simp; omega) fun v114 s115 w117 ho116 hH118 => ?_)
        have ho116 : Own 70 2 v114 (out ++ [x101]).length ((out ++ [x101]).flatMap ceC) s115 := ho116.appF
        refine r_op 9 rfl (by kernel_rfl) (o_fieldAddr (k := 2) (fun _ => by kernel_rfl) e20_9 ?_)
        refine r_eff 10 rfl (by kernel_rfl) (o_store1 (c' := #[(.int .i64 no), (.int .i64 g), v114]) ti34 rfl rfl ho116.one (by simp) rfl (hH118.front 2 rfl) fun w119 hH120 => ?_)
        refine Rest.done (by kernel_rfl) ?_
        refine b_norm ?_
        refine t_norm (hK29 _ _ ?_)
        refine c_region ?_
        refine s_op (o_move (v := (.int .i64 (k : Int))) e20_11 ?_)
        refine s_op (o_add (a := (k : Int)) (b := 1) rfl rfl (w64 (by omega) (by omega)) ?_)
        refine s_op (o_assign (v := (.int .i64 ((k : Int) + 1))) rfl ?_)
        refine s_nil ?_
        have hH121 : Has E w119 [s115, [Hp.one b12 (.cells #[(.int .i64 no), (.int .i64 g), v114] 36 (0, 0))], [Hp.one b8 (.cells #[(.int .i64 0), (.int .i64 0), (.slice none 0 0)] 36 (0, 0))], [Hp.one b5 (.cells #[(.bool v.1), (S v.2)] 62 (0, 0))], [Hp.one b2 (.cells #[(.int .i64 no), (.int .i64 gsn), v_l] 36 (0, 0))], R] := Has.pick hH120 [1, 0, 1, 1, 1, 1] (by kernel_rfl)
        refine t_norm ⟨l.length - (k + 1), _, rfl, ?_, ?_⟩
        · omega
        · exact ⟨(k + 1), d, v114, s115, (out ++ [x101]), rfl, hH121, (by omega), (ho116), (by first | omega | (simp only [List.length_append, List.length_cons, List.length_nil]; omega)), (by ((have h_ := putL_step hf (show l[k]? = some _ from hx102)); (have hd_ : d = true := by simpa using h32); (try subst hd_); simpa [h103] using h_)), e20_0, e20_1, e20_2, e20_3, e20_4, e20_6, e20_8, e20_9, e20_10, rfl⟩
      · -- not: x101.1 ≠ key
        refine wp_skip ?_
        refine b_norm ?_
        refine t_norm (hK29 _ _ ?_)
        refine c_region ?_
        refine s_op (o_move (v := (.int .i64 (k : Int))) e20_11 ?_)
        refine s_op (o_add (a := (k : Int)) (b := 1) rfl rfl (w64 (by omega) (by omega)) ?_)
        refine s_op (o_assign (v := (.int .i64 ((k : Int) + 1))) rfl ?_)
        refine s_nil ?_
        refine t_norm ⟨l.length - (k + 1), _, rfl, ?_, ?_⟩
        · omega
        · exact ⟨(k + 1), d, vo, so, out, rfl, hH24, (by omega), (hoo), (by first | omega | (simp only [List.length_append, List.length_cons, List.length_nil]; omega)), (by ((have h_ := putL_step hf (show l[k]? = some _ from hx102)); (have hd_ : d = true := by simpa using h32); (try subst hd_); simpa [h103] using h_)), e20_0, e20_1, e20_2, e20_3, e20_4, e20_6, e20_8, e20_9, e20_10, rfl⟩
  · -- not: (k : Int) < ((l.length : Nat) : Int)
    refine wp_exit ?_
    refine t_exit (t_exit (x_in (?_)))
    refine t_norm (hK18 _ _ ?_)
    refine wp_seq_k fun K122 hK122 => ?_
    refine wp_seq_k fun K123 hK123 => ?_
    refine c_region ?_
    refine s_op (o_move (v := (.bool d)) e20_10 ?_)
    refine s_op (o_not rfl ?_)
    refine s_nil ?_
    refine t_norm (hK123 _ _ ?_)
    refine c_condb rfl (fun h124 => ?_) (fun h124 => ?_)
    · -- !d
      have h124_n : d = false := by first | simpa using h124 | exact Bool.of_not_eq_true (fun g_ => by rw [g_] at h124; cases h124)
      refine c_region ?_
      refine s_op (o_fieldAddr (k := 2) (fun _ => by kernel_rfl) e20_9 ?_)
      refine s_op (o_load1 (v := vo) Tryz.underlying34 rfl rfl hH24 (seg_sub 1 rfl) (CellsAt.one rfl) ?_)
      refine s_op (o_move (v := (S key)) e20_1 ?_)
      refine s_op (o_fieldAddr (k := 1) (fun _ => by kernel_rfl) e20_6 ?_)
      refine s_op (o_load1 (v := (S v.2)) Tryz.underlying9 rfl rfl hH24 (seg_sub 3 rfl) (CellsAt.one rfl) ?_)
      refine s_op (o_sight (v := (.agg #[(S key), (S v.2)])) (fun _ => by kernel_rfl) ?_)
      refine s_op (o_buildSlice (ps := #[(0, (.agg #[(S key), (S v.2)]))]) (cells := #[(S key), (S v.2)]) Tryz.underlying34 ti70 (by decide) (parts1 rfl) (by kernel_rfl) hH24 fun b125 w126 hH127 => ?_)
      refine s_op (o_append Tryz.underlying34 ti70 rfl (by decide) rfl hoo rfl (sl_litF (f := ceC) (l := [((key, v.2) : Cel)]) ceC_len rfl rfl (by simp)) (hH127.front 1 rfl) (seg_sub 0 rfl) (one_ceC _) (by simp; omega) (by simp; omega) fun v128 s129 w131 ho130 hH132 => ?_)
      have ho130 : Own 70 2 v128 (out ++ [((key, v.2) : Cel)]).length ((out ++ [((key, v.2) : Cel)]).flatMap ceC) s129 := ho130.appF
      refine s_op (o_fieldAddr (k := 2) (fun _ => by kernel_rfl) e20_9 ?_)
      refine s_eff (o_store1 (c' := #[(.int .i64 no), (.int .i64 g), v128]) ti34 rfl rfl ho130.one (by simp) rfl (hH132.front 2 rfl) fun w133 hH134 => ?_)
      refine s_nil ?_
      refine t_norm (hK122 _ _ ?_)
      refine wp_seq_k fun K135 hK135 => ?_
      refine c_region ?_
      refine s_op (o_loadN (cs := [(.int .i64 no), (.int .i64 g), v128]) Tryz.underlying36 rfl ti36 e20_9 hH134 (seg_sub 0 rfl) (CellsAt.one rfl) ?_)
      refine s_eff (o_storeN (vs := [(.int .i64 no), (.int .i64 g), v128]) (c' := #[(.int .i64 no), (.int .i64 g), v128]) ti36 e20_8 rfl rfl rfl (by intro u hu; simp only [List.mem_cons, List.not_mem_nil, or_false] at hu; rcases hu with rfl | rfl | rfl <;> first | rfl | exact ho130.one) (by simp) (by kernel_rfl) (hH134.front 3 rfl) fun w136 hH137 => ?_)
      refine s_nil ?_
      refine t_norm (hK135 _ _ ?_)
      refine wp_ret ?_
      refine c_retC1 Tryz.results75 e20_8 (run_loadVarN (cs := [(.int .i64 no), (.int .i64 g), v128]) Tryz.underlying36 rfl ti36 hH137 (seg_sub 0 rfl) (CellsAt.one rfl)) ?_
      have hE_ := putL_end hf (by omega)
      have hd_ : d = false := by simpa using h124
      simp [hd_] at hE_
      have q138 : (putL key v.2 (!v.1) l) = out ++ [((key, v.2) : Cel)] := by rw [hE_]
      have hH139 : Has E w136 [s129, R] := ((hH137.front 6 rfl).front 3 rfl).first 2 rfl
      exact ⟨_, _, rfl, (by rw [q138]; exact ho130), hH139⟩
    · -- not: !d
      have h124_n : d = true := by first | simpa using h124 | exact Bool.of_not_eq_false (fun g_ => by rw [g_] at h124; cases h124)
      refine wp_skip ?_
      refine t_norm (hK122 _ _ ?_)
      refine wp_seq_k fun K140 hK140 => ?_
      refine c_region ?_
      refine s_op (o_loadN (cs := [(.int .i64 no), (.int .i64 g), vo]) Tryz.underlying36 rfl ti36 e20_9 hH24 (seg_sub 1 rfl) (CellsAt.one rfl) ?_)
      refine s_eff (o_storeN (vs := [(.int .i64 no), (.int .i64 g), vo]) (c' := #[(.int .i64 no), (.int .i64 g), vo]) ti36 e20_8 rfl rfl rfl (by intro u hu; simp only [List.mem_cons, List.not_mem_nil, or_false] at hu; rcases hu with rfl | rfl | rfl <;> first | rfl | exact hoo.one) (by simp) (by kernel_rfl) (hH24.front 2 rfl) fun w141 hH142 => ?_)
      refine s_nil ?_
      refine t_norm (hK140 _ _ ?_)
      refine wp_ret ?_
      refine c_retC1 Tryz.results75 e20_8 (run_loadVarN (cs := [(.int .i64 no), (.int .i64 g), vo]) Tryz.underlying36 rfl ti36 hH142 (seg_sub 0 rfl) (CellsAt.one rfl)) ?_
      have hE_ := putL_end hf (by omega)
      have hd_ : d = true := by simpa using h124
      simp [hd_] at hE_
      have q143 : (putL key v.2 (!v.1) l) = out := by rw [hE_]
      have hH144 : Has E w141 [so, R] := ((hH142.front 5 rfl).front 2 rfl).first 2 rfl
      exact ⟨_, _, rfl, (by rw [q143]; exact hoo), hH144⟩
end Go.Q
namespace Go.Q
/-- one bit falls out -/
def cb (r : BitVec 32) : BitVec 32 := if r.getLsbD 0 then (r >>> 1) ^^^ 0xedb88320#32 else r >>> 1
def cbs : Nat → BitVec 32 → BitVec 32
  | 0, r => r
  | n + 1, r => cbs n (cb r)
def b32 (b : UInt8) : BitVec 32 := BitVec.ofNat 32 b.toNat
/-- one byte -/
def cby (r : BitVec 32) (b : UInt8) : BitVec 32 := cbs 8 (r ^^^ b32 b)
def crcF (r : BitVec 32) (l : List UInt8) : BitVec 32 := l.foldl cby r
def crcS (l : List UInt8) : BitVec 32 := ~~~ (crcF (0xffffffff#32) l)
theorem cb_xor (a b : BitVec 32) : cb (a ^^^ b) = cb a ^^^ cb b := by
  unfold cb
  rw [BitVec.getLsbD_xor, BitVec.ushiftRight_xor_distrib]
  generalize a >>> 1 = x
  generalize b >>> 1 = y
  generalize (0xedb88320#32 : BitVec 32) = c
  have e1 : x ^^^ (y ^^^ c) = x ^^^ y ^^^ c := (BitVec.xor_assoc x y c).symm
  have e2 : x ^^^ c ^^^ y = x ^^^ y ^^^ c := by rw [BitVec.xor_assoc, BitVec.xor_comm c y, e1]
  have e3 : x ^^^ c ^^^ (y ^^^ c) = x ^^^ y := by rw [← BitVec.xor_assoc, e2, BitVec.xor_assoc, BitVec.xor_self, BitVec.xor_zero]
  cases a.getLsbD 0 <;> cases b.getLsbD 0 <;> simp [e1, e2, e3]
theorem cb_even {a : BitVec 32} (h : a.getLsbD 0 = false) : cb a = a >>> 1 := by unfold cb; rw [h]; rfl
theorem cbs_xor : ∀ (n : Nat) (a b : BitVec 32), cbs n (a ^^^ b) = cbs n a ^^^ cbs n b
  | 0, _, _ => rfl
  | n + 1, a, b => by rw [cbs, cb_xor, cbs_xor n]; rfl
theorem cbs_add (a b : Nat) : ∀ r, cbs (a + b) r = cbs b (cbs a r) := by
  induction a with
  | zero => intro r; rw [Nat.zero_add]; rfl
  | succ a ih => intro r; rw [Nat.succ_add]; exact ih _
/-- bits above n: they only fall down -/
theorem cbs_high : ∀ (n : Nat) (a : BitVec 32), (∀ i, i < n → a.getLsbD i = false) → cbs n a = a >>> n
  | 0, a, _ => by simp [cbs]
  | n + 1, a, h => by
    rw [cbs, cb_even (h 0 (by omega)), cbs_high n _ (fun i hi => by
      rw [BitVec.getLsbD_ushiftRight, Nat.add_comm]; exact h (i + 1) (by omega))]
    rw [← BitVec.shiftRight_add, Nat.add_comm]
def nib (i : Nat) : BitVec 32 := cbs 4 (BitVec.ofNat 32 i)
theorem split4 (r : BitVec 32) : r = (r &&& ~~~ 15#32) ^^^ (r &&& 15#32) := by
  apply BitVec.eq_of_getLsbD_eq
  intro i hi
  simp only [BitVec.getLsbD_xor, BitVec.getLsbD_and, BitVec.getLsbD_not]
  cases r.getLsbD i <;> simp [hi]
theorem cbs4 (r : BitVec 32) : cbs 4 r = (r >>> 4) ^^^ nib (r &&& 15#32).toNat := by
  have hl : ∀ i, i < 4 → (r &&& ~~~ 15#32).getLsbD i = false := fun i hi => by
    have : (~~~ 15#32).getLsbD i = false := by
      rcases i with _ | _ | _ | _ | i <;> first | decide | omega
    rw [BitVec.getLsbD_and, this, Bool.and_false]
  have e1 : (r &&& ~~~ 15#32) >>> 4 = r >>> 4 := by
    apply BitVec.eq_of_getLsbD_eq
    intro i hi
    rw [BitVec.getLsbD_ushiftRight, BitVec.getLsbD_ushiftRight, BitVec.getLsbD_and]
    by_cases hb : 4 + i < 32
    · have : ∀ j, j < 28 → (~~~ 15#32).getLsbD (4 + j) = true := by decide
      rw [this i (by omega), Bool.and_true]
    · rw [BitVec.getLsbD_of_ge r _ (by omega)]; rfl
  conv => lhs; rw [split4 r]
  rw [cbs_xor, cbs_high 4 _ hl, e1]
  unfold nib
  rw [BitVec.ofNat_toNat, BitVec.setWidth_eq]
theorem crcF_append (r : BitVec 32) (a b : List UInt8) : crcF r (a ++ b) = crcF (crcF r a) b := List.foldl_append
end Go.Q
namespace Go.Q
def uV (x : BitVec 32) : Value := .int .u32 (x.toNat : Int)
theorem ofInt_toNat (x : BitVec 32) : BitVec.ofInt 32 (x.toNat : Int) = x := by
  rw [BitVec.ofInt_natCast, BitVec.ofNat_toNat, BitVec.setWidth_eq]
theorem wrap_u32 {n : Int} (h0 : 0 ≤ n) (h1 : n < 4294967296) : IntKind.wrap .u32 n = n := by
  simp only [IntKind.wrap, IntKind.bits, IntKind.signed]
  simp
  exact Int.emod_eq_of_lt h0 (by simpa using h1)
theorem u32_lt (x : BitVec 32) : (x.toNat : Int) < 4294967296 := by have := x.isLt; omega
theorem xor32 (x y : BitVec 32) : IntKind.wrap .u32 ((BitVec.ofInt 32 (x.toNat : Int) ^^^ BitVec.ofInt 32 (y.toNat : Int)).toNat : Int) = ((x ^^^ y).toNat : Int) := by
  rw [ofInt_toNat, ofInt_toNat, wrap_u32 (by omega) (u32_lt _)]
theorem and32 (x y : BitVec 32) : IntKind.wrap .u32 ((BitVec.ofInt 32 (x.toNat : Int) &&& BitVec.ofInt 32 (y.toNat : Int)).toNat : Int) = ((x &&& y).toNat : Int) := by
  rw [ofInt_toNat, ofInt_toNat, wrap_u32 (by omega) (u32_lt _)]
theorem shr32 (x : BitVec 32) (n : Nat) (h : n ≤ 32) : Int.fdiv (x.toNat : Int) (2 ^ (min ((n : Int)).toNat (IntKind.bits .u32))) = ((x >>> n).toNat : Int) := by
  rw [show min ((n : Int)).toNat (IntKind.bits .u32) = n from by simp [IntKind.bits]; omega, BitVec.toNat_ushiftRight, Nat.shiftRight_eq_div_pow,
    show ((2 : Int) ^ n) = ((2 ^ n : Nat) : Int) from by rw [Int.natCast_pow]; rfl, Int.fdiv_eq_ediv_of_nonneg _ (Int.natCast_nonneg _)]
  exact (Int.natCast_ediv _ _).symm
theorem b32_nat (b : UInt8) : (b.toNat : Int) = ((b32 b).toNat : Int) := by
  unfold b32
  rw [BitVec.toNat_ofNat, Nat.mod_eq_of_lt (by have := b.toNat_lt; omega)]
theorem conv_b32 (b : UInt8) : IntKind.wrap .u32 (b.toNat : Int) = ((b32 b).toNat : Int) := by
  rw [b32_nat]; exact wrap_u32 (by omega) (u32_lt _)
/-- the low byte -/
def lo8 (x : BitVec 32) : UInt8 := UInt8.ofNat x.toNat
theorem conv_lo8 (x : BitVec 32) : IntKind.wrap .u8 (x.toNat : Int) = ((lo8 x).toNat : Int) := by
  simp only [IntKind.wrap, IntKind.bits, IntKind.signed]
  simp [lo8]
theorem and15_lt (x : BitVec 32) : (x &&& 15#32).toNat < 16 := by
  rw [BitVec.toNat_and]; exact Nat.lt_of_le_of_lt Nat.and_le_right (by decide)
/-- the table -/
def nibV : List Value := [.int .u32 0, .int .u32 498536548, .int .u32 997073096, .int .u32 651767980, .int .u32 1994146192, .int .u32 1802195444, .int .u32 1303535960, .int .u32 1342533948, .int .u32 3988292384, .int .u32 4027552580, .int .u32 3604390888, .int .u32 3412177804, .int .u32 2607071920, .int .u32 2262029012, .int .u32 2685067896, .int .u32 3183342108]
def nibL : List Int := [0, 498536548, 997073096, 651767980, 1994146192, 1802195444, 1303535960, 1342533948, 3988292384, 4027552580, 3604390888, 3412177804, 2607071920, 2262029012, 2685067896, 3183342108]
theorem nibV_L {i : Nat} {v : Value} (h : nibV[i]? = some v) : ∃ z, nibL[i]? = some z ∧ v = .int .u32 z := by
  have e : nibV = nibL.map (fun z => Value.int .u32 z) := rfl
  rw [e, List.getElem?_map, Option.map_eq_some_iff] at h
  obtain ⟨z, h1, h2⟩ := h
  exact ⟨z, h1, h2.symm⟩
theorem nibV_at : ∀ i, i < 16 → nibV[i]? = some (uV (nib i)) := by
  have : ∀ i, i < 16 → (nib i).toNat = [0, 498536548, 997073096, 651767980, 1994146192, 1802195444, 1303535960, 1342533948, 3988292384, 4027552580, 3604390888, 3412177804, 2607071920, 2262029012, 2685067896, 3183342108].getD i 0 := by decide
  intro i hi
  unfold uV
  rw [this i hi]
  rcases i with _ | _ | _ | _ | _ | _ | _ | _ | _ | _ | _ | _ | _ | _ | _ | _ | i <;> first | rfl | omega
theorem nib_at {L : List Hp} {g : Nat} (h : CellsAt L g 0 nibV) (x : BitVec 32) : CellsAt L g (0 + (x &&& 15#32).toNat) [uV (nib (x &&& 15#32).toNat)] :=
  h.sub fun j v hv => by
    cases j with
    | zero => rw [Nat.add_zero, nibV_at _ (and15_lt x)]; simpa using hv
    | succ j => simp at hv
theorem cby_nib (r : BitVec 32) (c : UInt8) : cby r c = (((r ^^^ b32 c) >>> 4 ^^^ nib ((r ^^^ b32 c) &&& 15#32).toNat) >>> 4) ^^^ nib (((r ^^^ b32 c) >>> 4 ^^^ nib ((r ^^^ b32 c) &&& 15#32).toNat) &&& 15#32).toNat := by
  rw [← cbs4, ← cbs4, ← cbs_add]; rfl
theorem crcF_snoc (r : BitVec 32) (l : List UInt8) (c : UInt8) : crcF r (l ++ [c]) = cby (crcF r l) c := by rw [crcF_append]; rfl
/-- a sum, laid -/
def laidS (x : BitVec 32) : List UInt8 := [lo8 x, lo8 (x >>> 8), lo8 (x >>> 16), lo8 (x >>> 24)]
theorem laidS_len (x : BitVec 32) : (laidS x).length = 4 := rfl
def sealS (t : List UInt8) : List UInt8 := t ++ laidS (crcS t)
theorem flat_le {l : List (List UInt8)} {x : List UInt8} (hx : x ∈ l) : x.length ≤ l.flatten.length := by
  induction l with
  | nil => cases hx
  | cons a t ih =>
    rw [List.flatten_cons, List.length_append]
    rcases List.mem_cons.1 hx with e | h
    · rw [e]; omega
    · have := ih h; omega
section ops
variable {P : Program} {ρ : Operand → Value} {E w : World} {ss : List (List Hp)} {K : Value → World → Prop} {dst : Option Tmp} {T : TypeId} {pos : String} {after : Array Edge} {g : Option (Nat × Bool)}
theorem o_compl {t u : TypeId} {x : Operand} {a : BitVec 32} (ht : P.underlying t = some (.int .u32)) (hx : ρ x = .int .u32 (a.toNat : Int)) (h : K (.int .u32 ((~~~ a).toNat : Int)) w) : OK P ⟨dst, .unOp .xor t x, u, pos, after, g⟩ ρ w K := by
  refine OK.val (run_v (v := .int .u32 ((~~~ a).toNat : Int)) ?_) h
  rw [hx]
  simp only [Op.unary, Op.intBits]
  rw [if_neg (show ¬ (IntKind.signed .u32 = true) by decide)]
  simp only [Sem.run_pure]
  have e : IntKind.max .u32 = ((4294967295#32).toNat : Int) := by decide
  rw [e]
  have := xor32 (4294967295#32) a
  rw [show (4294967295#32 ^^^ a) = ~~~ a from by
    apply BitVec.eq_of_getLsbD_eq
    intro i hi
    have : ∀ j, j < 32 → (4294967295#32).getLsbD j = true := by decide
    rw [BitVec.getLsbD_xor, this i hi, BitVec.getLsbD_not, decide_eq_true hi]; cases a.getLsbD i <;> rfl] at this
  exact congrArg (fun n => Result.ok (Value.int .u32 n) w) this
theorem o_idxArr {x y : Operand} {t e : TypeId} {n b off i by_ : Nat} {k : IntKind} {z : Value} (ht : P.underlying t = some (.array n e)) (hi : TI P e z 1 by_) (hx : ρ x = .pointer (some ⟨b, off, none⟩)) (hy : ρ y = .int k (i : Int)) (h : i < n)
    (hK : K (.pointer (some ⟨b, off + i, none⟩)) w) : OK P ⟨dst, .indexAddr t x y, T, pos, after, g⟩ ρ w K := by
  refine OK.val (run_v (v := .pointer (some ⟨b, off + i, none⟩)) ?_) hK
  rw [hx, hy]
  simp [Instr.indexAt, asIntOf, run_underlying ht, h, hi.size, add_lit, Instr.sureAddr]
end ops
end Go.Q
namespace Go.Q
/-- A row of one's own whose block bears a mark behind its last cell. -/
def OwnZ (e : TypeId) (v : Value) (n : Nat) (cs : List Value) (hs : List Hp) : Prop :=
  cs.length = n ∧ ∃ b cap cur, v = .slice (some ⟨b, 0, none⟩) n cap ∧ hs = [Hp.one b (.cells cur e (cur.size, cur.size + 1))] ∧ n ≤ cap ∧ cap ≤ 9223372036854775807 ∧ cur.size = cap ∧ cur.toList.take n = cs
theorem OwnZ.sl {e : TypeId} {v : Value} {n : Nat} {cs : List Value} {hs : List Hp} (H : OwnZ e v n cs hs) : Sl hs 1 v n cs := by
  obtain ⟨hl, b, cap, cur, rfl, rfl, h1, h2, h3, h4⟩ := H
  refine ⟨_, _, rfl, h1, h2, by omega, fun _ => ⟨b, 0, rfl, CellsAt.one ?_⟩⟩
  rw [List.drop_zero, hl]; exact h4
theorem OwnZ.one {e : TypeId} {v : Value} {n : Nat} {cs : List Value} {hs : List Hp} (h : OwnZ e v n cs hs) : v.oneCell' = true := h.sl.one
section ops
variable {P : Program} {ρ : Operand → Value} {E w : World} {ss : List (List Hp)} {K : Value → World → Prop} {dst : Option Tmp} {T : TypeId} {pos : String} {after : Array Edge} {g : Option (Nat × Bool)}
end ops
end Go.Q
namespace Go.Q
/-- the bits of a byte, the lowest first; of bytes -/
def bits8 (b : UInt8) : List Bool := (List.range 8).map b.toNat.testBit
def bitsOf (s : List UInt8) : List Bool := s.flatMap bits8
theorem bits8_len (b : UInt8) : (bits8 b).length = 8 := rfl
theorem bits8_get (b : UInt8) (i : Nat) : (bits8 b)[i]? = if i < 8 then some (b.toNat.testBit i) else none := by
  by_cases h : i < 8
  · rw [if_pos h]; unfold bits8; rw [List.getElem?_map, List.getElem?_range h]; rfl
  · rw [if_neg h]; exact List.getElem?_eq_none (by rw [bits8_len]; omega)
theorem bits_get : ∀ (s : List UInt8) (p : Nat), (bitsOf s)[p]? = (s[p / 8]?).map fun b => b.toNat.testBit (p % 8)
  | [], p => rfl
  | b :: s, p => by
    unfold bitsOf
    rw [List.flatMap_cons]
    by_cases h : p < 8
    · rw [List.getElem?_append_left (by rw [bits8_len]; exact h), bits8_get, if_pos h, Nat.div_eq_of_lt h, Nat.mod_eq_of_lt h]; rfl
    · rw [List.getElem?_append_right (by rw [bits8_len]; omega), bits8_len]
      have := bits_get s (p - 8)
      unfold bitsOf at this
      rw [this, show p / 8 = (p - 8) / 8 + 1 by omega, List.getElem?_cons_succ, show (p - 8) % 8 = p % 8 by omega]
/-- one bit of a byte turned -/
def pow8 (n : Nat) : UInt8 := UInt8.ofNat (2 ^ n)
theorem turn_step {s lc : List UInt8} {a q : Nat} {c : UInt8} (hl : lc.length = s.length) (hw : ∀ p, p < a ∨ a + 32 ≤ p → (bitsOf lc)[p]? = (bitsOf s)[p]?) (hq : a ≤ q ∧ q < a + 32) (hc : lc[q / 8]? = some c) :
    (lc.set (q / 8) (c ^^^ pow8 (q % 8))).length = s.length ∧ ∀ p, p < a ∨ a + 32 ≤ p → (bitsOf (lc.set (q / 8) (c ^^^ pow8 (q % 8))))[p]? = (bitsOf s)[p]? := by
  refine ⟨by rw [List.length_set, hl], fun p hp => ?_⟩
  rw [← hw p hp, bits_get, bits_get]
  by_cases h : p / 8 = q / 8
  · have hlt := (List.getElem?_eq_some_iff.1 hc).1
    rw [h, List.getElem?_set_self hlt, hc, Option.map_some, Option.map_some]
    congr 1
    have hm : p % 8 ≠ q % 8 := by omega
    rw [UInt8.toNat_xor, Nat.testBit_xor]
    have : (pow8 (q % 8)).toNat.testBit (p % 8) = false := by
      unfold pow8
      have h2 : 2 ^ (q % 8) < 256 := Nat.lt_of_le_of_lt (Nat.pow_le_pow_right (by decide) (show q % 8 ≤ 7 by omega)) (by decide)
      rw [UInt8.toNat_ofNat', Nat.mod_eq_of_lt h2, Nat.testBit_two_pow]
      exact decide_eq_false (by omega)
    rw [this, Bool.xor_false]
  · rw [List.getElem?_set_ne (fun e => h e.symm)]
/-- the lists are alike but for a window of 32 bits -/
def Win (a : Nat) (t s : List UInt8) : Prop := t.length = s.length ∧ ∀ p, p < a ∨ a + 32 ≤ p → (bitsOf t)[p]? = (bitsOf s)[p]?
theorem Win.refl (a : Nat) (s : List UInt8) : Win a s s := ⟨rfl, fun _ _ => rfl⟩
theorem Win.step {a i : Nat} {t s : List UInt8} {c : UInt8} (h : Win a t s) (hi : i < 32) (hc : t[(((a : Int) + (i : Int)) / 8).toNat]? = some c) :
    Win a (t.set (((a : Int) + (i : Int)) / 8).toNat (c ^^^ pow8 (((a : Int) + (i : Int)) % 8).toNat)) s := by
  have e1 : (((a : Int) + (i : Int)) / 8).toNat = (a + i) / 8 := by omega
  have e2 : (((a : Int) + (i : Int)) % 8).toNat = (a + i) % 8 := by omega
  rw [e1] at hc ⊢
  rw [e2]
  exact turn_step h.1 h.2 (by omega) hc
end Go.Q
namespace Go.Q
theorem two_pow8 (j : Nat) : ((2 : Int) ^ (8 * j)) = ((256 ^ j : Nat) : Int) := by
  induction j with
  | zero => rfl
  | succ j ih => rw [Nat.mul_succ, Int.pow_add, ih, Nat.pow_succ, Int.natCast_mul]; rfl
theorem by8_nat (m : Nat) (j : Nat) : (by8 ((m : Int) / 2 ^ (8 * j))).toNat = m / 256 ^ j % 256 := by
  unfold by8
  rw [UInt8.toNat_ofNat', two_pow8, ← Int.natCast_ediv]
  omega
theorem fold_be (m : Nat) : ∀ (j : Nat) (acc : Int), (beFrom (m : Int) j).foldl (fun n b => n * 256 + (b.toNat : Int)) acc = acc * ((256 ^ j : Nat) : Int) + ((m % 256 ^ j : Nat) : Int)
  | 0, acc => by simp [beFrom, Nat.mod_one]
  | j + 1, acc => by
    rw [show beFrom (m : Int) (j + 1) = by8 ((m : Int) / 2 ^ (8 * j)) :: beFrom (m : Int) j from rfl, List.foldl_cons, fold_be m j, by8_nat, Nat.pow_succ, Nat.mod_mul, Int.add_mul, Int.mul_assoc, Int.natCast_mul, Int.natCast_add, Int.natCast_mul, Int.mul_comm 256, Int.mul_comm ((m / 256 ^ j % 256 : Nat) : Int), show ((256 : Nat) : Int) = 256 from rfl]
    omega
theorem beVal_be (m j : Nat) (h : m < 256 ^ j) : beVal (beFrom (m : Int) j) = m := by
  rw [beVal, fold_be, Nat.mod_eq_of_lt h]; omega
/-- a number that fits is below the power -/
theorem fits_nat {n : Int} {k : Nat} (h : fitsS n k = true) (h1 : 1 ≤ k) (h8 : k ≤ 8) (hn : n ≤ 9223372036854775807) : ∃ m : Nat, n = m ∧ m < 256 ^ k ∧ m ≤ 9223372036854775807 := by
  simp only [fitsS, Bool.and_eq_true, Bool.or_eq_true, decide_eq_true_eq] at h
  obtain ⟨h0, h2⟩ := h
  refine ⟨n.toNat, by omega, ?_, by omega⟩
  rcases h2 with h2 | h2
  · obtain rfl : k = 8 := by omega
    omega
  · rw [show (min (8 * (k : Int)).toNat 64) = 8 * k from by omega, two_pow8, Int.fdiv_eq_ediv_of_nonneg _ (Int.natCast_nonneg _), show n = ((n.toNat : Nat) : Int) from by omega, ← Int.natCast_ediv] at h2
    have h3 : n.toNat / 256 ^ k = 0 := by omega
    exact (Nat.div_eq_zero_iff.1 h3).resolve_left (Nat.pos_iff_ne_zero.1 (Nat.pow_pos (by omega)))
theorem be_first {m : Nat} (h : m ≤ 9223372036854775807) : ∀ c, (beFrom (m : Int) 8)[0]? = some c → c.toNat ≤ 127 := by
  intro c hc
  rw [show beFrom (m : Int) 8 = by8 ((m : Int) / 2 ^ (8 * 7)) :: beFrom (m : Int) 7 from rfl] at hc
  have : c = by8 ((m : Int) / 2 ^ (8 * 7)) := by simpa using hc.symm
  subst this
  rw [by8_nat]
  omega
theorem put_one_fits {n : Int} {k : Nat} (h1 : 1 ≤ k) (h8 : k ≤ 8) (h : fitsS n k = true) : putS k [n] = beFrom n k := by
  rw [putS_yes h1 h8 (by simpa using h)]; simp
theorem put_one_yes {n : Int} {k : Nat} (h1 : 1 ≤ k) (h8 : k ≤ 8) (h : putS k [n] ≠ []) : fitsS n k = true := by
  cases hf : fitsS n k with
  | true => rfl
  | false => exact absurd (putS_no (List.mem_singleton.2 rfl) hf) h
theorem back_law {n : Int} {k : Nat} {more : List UInt8} (h1 : 1 ≤ k) (h8 : k ≤ 8) (hn : n ≤ 9223372036854775807) (h : putS k [n] ≠ []) : takeS (putS k [n] ++ more) k = (n, more, true) := by
  have hf := put_one_yes h1 h8 h
  obtain ⟨m, rfl, hm, hm2⟩ := fits_nat hf h1 h8 hn
  rw [put_one_fits h1 h8 hf, takeS_yes h1 h8 (by rw [List.length_append, beFrom_length]; omega) ?_]
  · rw [List.take_left' (beFrom_length _ _), List.drop_left' (beFrom_length _ _), beVal_be m k hm]
  · rcases Nat.lt_or_ge k 8 with g | g
    · exact .inl (by omega)
    · obtain rfl : k = 8 := by omega
      refine .inr fun c hc => be_first hm2 c ?_
      rw [List.getElem?_append_left (by rw [beFrom_length]; omega)] at hc
      exact hc
end Go.Q
namespace Go.Q
end Go.Q
namespace Go.Q
theorem fits_iff {n : Nat} {m : Nat} (h8 : m ≤ 8) (hn : (n : Int) ≤ 9223372036854775807) : fitsS (n : Int) m = decide (n < 256 ^ m) := by
  rw [Bool.eq_iff_iff]
  simp only [fitsS, Bool.and_eq_true, Bool.or_eq_true, decide_eq_true_eq]
  rw [show (min (8 * (m : Int)).toNat 64) = 8 * m from by omega, two_pow8, Int.fdiv_eq_ediv_of_nonneg _ (Int.natCast_nonneg _), ← Int.natCast_ediv]
  have hp : 0 < 256 ^ m := Nat.pow_pos (by omega)
  constructor
  · rintro ⟨_, h | h⟩
    · obtain rfl : m = 8 := by omega
      omega
    · exact (Nat.div_eq_zero_iff.1 (by omega : n / 256 ^ m = 0)).resolve_left (by omega)
  · intro h; exact ⟨by omega, .inr (by rw [Nat.div_eq_of_lt h]; rfl)⟩
end Go.Q
namespace Go.Q
end Go.Q
namespace Go.Q
end Go.Q
namespace Go.Q
theorem fits_lit {n : Int} {m : Nat} {b : Nat} (h0 : 0 ≤ n) (h1 : n < (b : Int)) (h8 : m ≤ 8) (hb : b ≤ 256 ^ m) (h63 : n ≤ 9223372036854775807) : fitsS n m = true := by
  obtain ⟨k, rfl⟩ : ∃ k : Nat, n = k := ⟨n.toNat, by omega⟩
  rw [fits_iff h8 h63]
  exact decide_eq_true (by omega)
end Go.Q
namespace Go.Q
theorem take_be {n : Int} {k : Nat} {more : List UInt8} (h1 : 1 ≤ k) (h8 : k ≤ 8) (hn : n ≤ 9223372036854775807) (h : fitsS n k = true) : takeS (beFrom n k ++ more) k = (n, more, true) := by
  have e := put_one_fits h1 h8 h
  have hne : putS k [n] ≠ [] := fun g => by
    have := beFrom_length n k
    rw [← e, g] at this
    simp at this; omega
  have := back_law (more := more) h1 h8 hn hne
  rwa [e] at this
theorem take_rest_le (s : List UInt8) (m : Nat) : (takeS s m).2.1.length ≤ s.length := by
  unfold takeS
  split
  · simp only [List.length_drop]; omega
  · exact Nat.le_refl _
theorem beVal_one (c : UInt8) : beVal [c] = (c.toNat : Int) := by simp [beVal]
theorem take_one (s : List UInt8) : 0 ≤ (takeS s 1).1 ∧ (takeS s 1).1 ≤ 255 := by
  cases s with
  | nil => unfold takeS; rw [if_neg (by simp)]; simp
  | cons c t =>
    rw [takeS_yes (by decide) (by decide) (by simp) (.inl (by decide))]
    have := c.toNat_lt
    show 0 ≤ beVal [c] ∧ beVal [c] ≤ 255
    rw [beVal_one]; omega
end Go.Q
namespace Go.Q
theorem be1 (n : Int) : beFrom n 1 = [by8 n] := by simp [beFrom]
theorem put1 {x : Int} (h : 0 ≤ x ∧ x ≤ 255) : putS 1 [x] = beFrom x 1 := by
  rw [putS_yes (by decide) (by decide) (fun y hy => by rw [List.mem_singleton.1 hy]; exact fits_lit (b := 256) h.1 (by omega) (by decide) (by decide) (by omega))]; simp
theorem put8 {x : Int} (h : 0 ≤ x ∧ x ≤ 9223372036854775807) : putS 8 [x] = beFrom x 8 := by
  rw [putS_yes (by decide) (by decide) (fun y hy => by rw [List.mem_singleton.1 hy]; exact fits_lit (b := 9223372036854775808) h.1 (by omega) (by decide) (by decide) (by omega))]; simp
def shortB (s : Bs) : Bs := beFrom (s.length : Int) 1 ++ s
theorem shortB_len (s : Bs) : (shortB s).length = s.length + 1 := by unfold shortB; rw [List.length_append, beFrom_length]; omega
def cellB (c : Cel) : Bs := shortB c.1 ++ shortB c.2
def headB (no gsn : Int) (n : Nat) : Bs := beFrom no 1 ++ beFrom gsn 8 ++ beFrom (n : Int) 1
theorem headB_len (no gsn : Int) (n : Nat) : (headB no gsn n).length = 10 := by unfold headB; simp [beFrom_length]
def bodyB (no gsn : Int) (l : List Cel) : Bs := headB no gsn l.length ++ l.flatMap cellB
def fullB (no gsn : Int) (l : List Cel) : Bs := bodyB no gsn l ++ List.replicate (252 - (bodyB no gsn l).length) 0
def laidP (no gsn : Int) (l : List Cel) : Bs := if pageR no gsn l = true then sealS (fullB no gsn l) else []
theorem celOk_len {c : Cel} (h : celOk c = true) : c.1.length ≤ 8 ∧ c.2.length ≤ 16 := by
  unfold celOk keyR valR at h
  simp only [Bool.and_eq_true, decide_eq_true_eq] at h
  omega
theorem cellB_len {c : Cel} (h : celOk c = true) : (cellB c).length ≤ 26 := by
  have := celOk_len h
  unfold cellB; rw [List.length_append, shortB_len, shortB_len]; omega
theorem cells_len : ∀ {l : List Cel}, (∀ c ∈ l, celOk c = true) → (l.flatMap cellB).length ≤ 26 * l.length
  | [], _ => by simp
  | c :: t, h => by
    have h1 := cellB_len (h c (List.mem_cons_self ..))
    have h2 := cells_len fun a ha => h a (List.mem_cons_of_mem c ha)
    rw [List.flatMap_cons, List.length_append, List.length_cons]; omega
theorem bodyB_len {no gsn : Int} {l : List Cel} (h : pageR no gsn l = true) : (bodyB no gsn l).length ≤ 218 := by
  have h1 := cellsR_iff.1 (pageR_iff.1 h).2
  have h2 := cells_len h1.1
  unfold bodyB; rw [List.length_append, headB_len]; omega
theorem fullB_len {no gsn : Int} {l : List Cel} (h : pageR no gsn l = true) : (fullB no gsn l).length = 252 := by
  have := bodyB_len h
  unfold fullB; rw [List.length_append, List.length_replicate]; omega
theorem laidP_len {no gsn : Int} {l : List Cel} (h : pageR no gsn l = true) : (laidP no gsn l).length = 256 := by
  unfold laidP; rw [if_pos h, sealS, List.length_append, laidS_len, fullB_len h]
theorem laidP_no {no gsn : Int} {l : List Cel} (h : pageR no gsn l = false) : laidP no gsn l = [] := by
  unfold laidP; rw [if_neg (by rw [h]; decide)]
theorem laidP_le (no gsn : Int) (l : List Cel) : (laidP no gsn l).length ≤ 256 := by
  cases h : pageR no gsn l with
  | true => rw [laidP_len h]; exact Nat.le_refl _
  | false => rw [laidP_no h]; simp
/-! ### a text with its length ahead -/
def textS (s : Bs) : Bs × Bs × Bool := if (takeS s 1).2.2 = true ∧ (takeS s 1).1 ≤ ((takeS s 1).2.1.length : Int) then ((takeS s 1).2.1.take (takeS s 1).1.toNat, (takeS s 1).2.1.drop (takeS s 1).1.toNat, true) else ([], [], false)
theorem textS_short {k more : Bs} (h : k.length ≤ 255) : textS (shortB k ++ more) = (k, more, true) := by
  unfold textS shortB
  rw [List.append_assoc, take_be (by decide) (by decide) (by omega) (fits_lit (b := 256) (by omega) (by omega) (by decide) (by decide) (by omega))]
  rw [if_pos ⟨rfl, by simp only [List.length_append]; omega⟩]
  simp
theorem textS_le (s : Bs) : (textS s).1.length ≤ 255 ∧ (textS s).2.1.length ≤ s.length := by
  unfold textS
  split
  · have h1 := take_one s
    have h2 := take_rest_le s 1
    simp only [List.length_take, List.length_drop]
    omega
  · simp
/-- the cells, as page.Read takes them -/
def goP : Nat → Int → Bs → List Cel → Bool × List Cel
  | 0, _, _, acc => (true, acc)
  | f + 1, n, rest, acc => if 0 < n then
      (if (textS rest).2.2 = true then
        (if (textS (textS rest).2.1).2.2 = true then goP f (n - 1) (textS (textS rest).2.1).2.1 (acc ++ [((textS rest).1, (textS (textS rest).2.1).1)])
         else (false, acc ++ [((textS rest).1, (textS (textS rest).2.1).1)]))
       else (false, acc ++ [((textS rest).1, [])]))
    else (true, acc)
theorem goP_laid : ∀ (l : List Cel) (f : Nat) (more : Bs) (acc : List Cel), (∀ c ∈ l, celOk c = true) → l.length ≤ f → goP f (l.length : Int) (l.flatMap cellB ++ more) acc = (true, acc ++ l)
  | [], 0, _, _, _, _ => by simp [goP]
  | [], f + 1, _, _, _, _ => by rw [goP, if_neg (by simp)]; simp
  | c :: t, 0, _, _, _, h => by simp at h
  | c :: t, f + 1, more, acc, hc, hf => by
    have h1 := celOk_len (hc c (List.mem_cons_self ..))
    have e : (c :: t).flatMap cellB ++ more = shortB c.1 ++ (shortB c.2 ++ (t.flatMap cellB ++ more)) := by
      rw [List.flatMap_cons, cellB]; simp only [List.append_assoc]
    rw [goP, if_pos (by simp only [List.length_cons]; omega), e, textS_short (by omega)]
    simp only
    rw [textS_short (by omega)]
    simp only [if_true]
    rw [show (((c :: t).length : Nat) : Int) - 1 = (t.length : Int) by simp only [List.length_cons]; omega, goP_laid t f more _ (fun a ha => hc a (List.mem_cons_of_mem c ha)) (by simpa using hf)]
    simp
def goP0 (s : Bs) : Bool × List Cel := if (takeS (takeS s 1).2.1 8).2.2 = true then goP 8 (takeS (takeS (takeS s 1).2.1 8).2.1 1).1 (takeS (takeS (takeS s 1).2.1 8).2.1 1).2.1 [] else (false, [])
def readP (s : Bs) : Bool × Int × Int × List Cel :=
  if s.length = 256 ∧ (goP0 s).1 = true ∧ laidP (takeS s 1).1 (takeS (takeS s 1).2.1 8).1 (goP0 s).2 = s then (true, (takeS s 1).1, (takeS (takeS s 1).2.1 8).1, (goP0 s).2) else (false, 0, 0, [])
theorem laid_takes {no gsn : Int} {l : List Cel} (h : pageR no gsn l = true) : ∃ tail : Bs, laidP no gsn l = beFrom no 1 ++ (beFrom gsn 8 ++ (beFrom (l.length : Int) 1 ++ (l.flatMap cellB ++ tail))) := by
  refine ⟨List.replicate (252 - (bodyB no gsn l).length) 0 ++ laidS (crcS (fullB no gsn l)), ?_⟩
  unfold laidP
  rw [if_pos h, sealS]
  have e : fullB no gsn l = beFrom no 1 ++ (beFrom gsn 8 ++ (beFrom (l.length : Int) 1 ++ (l.flatMap cellB ++ List.replicate (252 - (bodyB no gsn l).length) 0))) := by
    have e2 : bodyB no gsn l = beFrom no 1 ++ (beFrom gsn 8 ++ (beFrom (l.length : Int) 1 ++ l.flatMap cellB)) := by unfold bodyB headB; simp only [List.append_assoc]
    have e3 : fullB no gsn l = bodyB no gsn l ++ List.replicate (252 - (bodyB no gsn l).length) 0 := rfl
    rw [e3]
    generalize List.replicate (252 - (bodyB no gsn l).length) (0 : UInt8) = z
    rw [e2]; simp only [List.append_assoc]
  generalize laidS (crcS (fullB no gsn l)) = y
  rw [e]
  simp only [List.append_assoc]
theorem readP_laid {no gsn : Int} {l : List Cel} (h : pageR no gsn l = true) : readP (laidP no gsn l) = (true, no, gsn, l) := by
  obtain ⟨tail, ht⟩ := laid_takes h
  have hp := pageR_iff.1 h
  have hc := cellsR_iff.1 hp.2
  have t1 : takeS (laidP no gsn l) 1 = (no, beFrom gsn 8 ++ (beFrom (l.length : Int) 1 ++ (l.flatMap cellB ++ tail)), true) := by
    rw [ht]; exact take_be (by decide) (by decide) (by omega) (fits_lit (b := 256) (by omega) (by omega) (by decide) (by decide) (by omega))
  have t2 : takeS (beFrom gsn 8 ++ (beFrom (l.length : Int) 1 ++ (l.flatMap cellB ++ tail))) 8 = (gsn, beFrom (l.length : Int) 1 ++ (l.flatMap cellB ++ tail), true) :=
    take_be (by decide) (by decide) (by omega) (fits_lit (b := 9223372036854775808) (by omega) (by omega) (by decide) (by decide) (by omega))
  have t3 : takeS (beFrom (l.length : Int) 1 ++ (l.flatMap cellB ++ tail)) 1 = ((l.length : Int), l.flatMap cellB ++ tail, true) :=
    take_be (by decide) (by decide) (by omega) (fits_lit (b := 256) (by omega) (by omega) (by decide) (by decide) (by omega))
  have hg : goP0 (laidP no gsn l) = (true, l) := by
    unfold goP0
    simp only [t1, t2, t3, if_true]
    rw [goP_laid l 8 tail [] hc.1 hc.2.2]; rfl
  unfold readP
  rw [hg, t1]
  simp only
  rw [t2]
  simp only
  rw [if_pos ⟨laidP_len h, trivial, trivial⟩]
theorem by8_len {n : Nat} (h : n ≤ 255) : (by8 (n : Int)).toNat = n := by
  unfold by8; rw [UInt8.toNat_ofNat']; omega
theorem text_no {s : Bs} (h : (takeS s 1).2.2 = false ∨ ((takeS s 1).2.1.length : Int) < (takeS s 1).1) : textS s = ([], [], false) := by
  unfold textS; rw [if_neg]; rintro ⟨g1, g2⟩
  rcases h with h | h
  · rw [g1] at h; cases h
  · omega
theorem text_yes {s : Bs} (h1 : (takeS s 1).2.2 = true) (h2 : ¬ ((takeS s 1).2.1.length : Int) < (takeS s 1).1) : textS s = ((takeS s 1).2.1.take (takeS s 1).1.toNat, (takeS s 1).2.1.drop (takeS s 1).1.toNat, true) := by
  unfold textS; rw [if_pos ⟨h1, by omega⟩]
/-- where page.Read's loop stands -/
def goS (ok : Bool) (n : Int) (rest : Bs) (acc : List Cel) : Bool × List Cel := if ok = true then goP (8 - acc.length) n rest acc else (false, acc)
theorem goS_step {n : Int} {rest r3 : Bs} {acc : List Cel} {X : Bool × List Cel} {ok : Bool} (h : X = goS ok n rest acc) (hok : ok = true) (hn : 0 < n) (ha : acc.length < 8) :
    X = if (textS rest).2.2 = true then goS (textS (textS rest).2.1).2.2 (n - 1) (textS (textS rest).2.1).2.1 (acc ++ [((textS rest).1, (textS (textS rest).2.1).1)]) else goS false (n - 1) r3 (acc ++ [((textS rest).1, [])]) := by
  subst hok
  obtain ⟨f, hf⟩ : ∃ f, 8 - acc.length = f + 1 := ⟨7 - acc.length, by omega⟩
  rw [h, goS, if_pos rfl, hf, goP, if_pos hn]
  have hl : ∀ c : Cel, 8 - (acc ++ [c]).length = f := fun c => by simp only [List.length_append, List.length_cons, List.length_nil]; omega
  by_cases g1 : (textS rest).2.2 = true
  · rw [if_pos g1, if_pos g1]
    unfold goS
    rw [hl]
  · rw [if_neg g1, if_neg g1]
    simp [goS]
theorem goS_end {n : Int} {rest : Bs} {acc : List Cel} {X : Bool × List Cel} {ok : Bool} (h : X = goS ok n rest acc) (he : ok = false ∨ ¬ 0 < n ∨ ¬ acc.length < 8) : X = (ok, acc) := by
  rw [h]; unfold goS
  cases ok with
  | false => simp
  | true =>
    rw [if_pos rfl]
    rcases he with he | he | he
    · cases he
    · cases 8 - acc.length with
      | zero => rfl
      | succ f => rw [goP, if_neg he]
    · rw [show 8 - acc.length = 0 by omega]; rfl
theorem goS_start (s : Bs) : goP0 s = goS (takeS (takeS s 1).2.1 8).2.2 (takeS (takeS (takeS s 1).2.1 8).2.1 1).1 (takeS (takeS (takeS s 1).2.1 8).2.1 1).2.1 [] := rfl
theorem readP_yes {s : Bs} {l : List Cel} (h : s.length = 256) (hg : goP0 s = (true, l)) (hl : laidP (takeS s 1).1 (takeS (takeS s 1).2.1 8).1 l = s) : readP s = (true, (takeS s 1).1, (takeS (takeS s 1).2.1 8).1, l) := by
  unfold readP; rw [hg, if_pos ⟨h, rfl, hl⟩]
theorem readP_no {s : Bs} (h : ¬ s.length = 256 ∨ (goP0 s).1 = false ∨ laidP (takeS s 1).1 (takeS (takeS s 1).2.1 8).1 (goP0 s).2 ≠ s) : readP s = (false, 0, 0, []) := by
  unfold readP; rw [if_neg]; rintro ⟨g1, g2, g3⟩
  rcases h with h | h | h
  · exact h g1
  · rw [g2] at h; cases h
  · exact h g3
end Go.Q
namespace Go.Q
theorem cell_prog {t : Bs} {l : List Cel} {k : Nat} {c : Cel} {h0 : Bs} (h : t = h0 ++ (l.take k).flatMap cellB) (hx : l[k]? = some c) : t ++ (shortB c.1 ++ shortB c.2) = h0 ++ (l.take (k + 1)).flatMap cellB := by
  rw [take_succ_of hx, List.flatMap_append, h]
  simp [cellB]
end Go.Q
namespace Go.Q
theorem mem_putL {key s : Bs} {x : Cel} : ∀ {d : Bool} {l : List Cel}, x ∈ putL key s d l ↔ (x ∈ l ∧ x.1 ≠ key) ∨ (d = false ∧ x = (key, s))
  | d, [] => by cases d <;> simp [putL]
  | d, c :: t => by
    rw [putL, List.mem_append, List.mem_append, mem_putL (l := t), List.mem_cons]
    by_cases hk : c.1 = key
    · have hc : ¬ c.1 < key := by rw [hk]; exact bs_irr _
      have hck : ¬ key < key := bs_irr _
      rw [decide_eq_false hc]
      cases d
      · simp only [hk, hc, ne_eq, not_true_eq_false, if_false, not_false_eq_true, and_self, if_true, List.mem_singleton, Bool.not_false, Bool.or_true, Bool.true_eq_false, false_and, or_false, true_and, List.not_mem_nil, false_or]
        rw [if_pos hck, List.mem_singleton]
        constructor
        · rintro (h | h)
          · exact .inr h
          · exact .inl ⟨.inr h.1, h.2⟩
        · rintro (⟨h | h, g⟩ | h)
          · rw [h] at g; exact absurd hk g
          · exact .inr ⟨h, g⟩
          · exact .inl h
      · simp only [hk, ne_eq, not_true_eq_false, Bool.true_eq_false, false_and, if_false, List.not_mem_nil, Bool.true_or, or_false, false_or]
        constructor
        · intro h; exact ⟨.inr h.1, h.2⟩
        · rintro ⟨h | h, g⟩
          · rw [h] at g; exact absurd hk g
          · exact ⟨h, g⟩
    · by_cases hc : c.1 < key
      · rw [decide_eq_true hc]
        cases d <;> simp [hk, hc]
        · constructor
          · rintro (h | h | h)
            · subst h; exact .inl ⟨.inl rfl, hk⟩
            · exact .inl ⟨.inr h.1, h.2⟩
            · exact .inr h
          · rintro (⟨h | h, g⟩ | h)
            · exact .inl h
            · exact .inr (.inl ⟨h, g⟩)
            · exact .inr (.inr h)
        · constructor
          · rintro (h | h)
            · subst h; exact ⟨.inl rfl, hk⟩
            · exact ⟨.inr h.1, h.2⟩
          · rintro ⟨h | h, g⟩
            · exact .inl h
            · exact .inr ⟨h, g⟩
      · rw [decide_eq_false hc]
        cases d
        · simp only [hk, hc, ne_eq, not_false_eq_true, and_self, if_true, List.mem_singleton, Bool.not_false, Bool.or_true, Bool.true_eq_false, false_and, or_false, true_and]
          constructor
          · rintro (h | h | h)
            · exact .inr h
            · subst h; exact .inl ⟨.inl rfl, hk⟩
            · exact .inl ⟨.inr h.1, h.2⟩
          · rintro (⟨h | h, g⟩ | h)
            · exact .inr (.inl h)
            · exact .inr (.inr ⟨h, g⟩)
            · exact .inl h
        · simp only [hk, ne_eq, not_false_eq_true, Bool.true_eq_false, false_and, if_false, List.not_mem_nil, if_true, List.mem_singleton, Bool.true_or, or_false, false_or]
          constructor
          · rintro (h | h)
            · subst h; exact ⟨.inl rfl, hk⟩
            · exact ⟨.inr h.1, h.2⟩
          · rintro ⟨h | h, g⟩
            · exact .inl h
            · exact .inr ⟨h, g⟩
theorem rises_putL {key s : Bs} : ∀ {d : Bool} {l : List Cel}, Rises l → Rises (putL key s d l)
  | d, [], _ => by cases d <;> simp [putL, Rises]
  | d, c :: t, h => by
    obtain ⟨h1, h2⟩ := rises_cons h
    have ih : ∀ d, Rises (putL key s d t) := fun d => rises_putL h2
    have hck : ∀ d x, x ∈ putL key s d t → (d = true ∨ c.1 < key) → c.1 < x.1 := fun d x hx hd => by
      rcases mem_putL.1 hx with ⟨g, _⟩ | ⟨g, e⟩
      · exact h1 x g
      · rcases hd with hd | hd
        · rw [g] at hd; cases hd
        · rw [e]; exact hd
    rw [putL]
    by_cases hc : c.1 < key
    · have hk : c.1 ≠ key := fun e => by rw [e] at hc; exact bs_irr _ hc
      rw [if_neg (by simp [hc]), if_pos hk, List.nil_append]
      exact List.pairwise_cons.2 ⟨fun x hx => hck _ x hx (.inr hc), ih _⟩
    · rw [decide_eq_false hc, Bool.not_false, Bool.or_true]
      by_cases hk : c.1 = key
      · rw [if_neg (show ¬ c.1 ≠ key by simp [hk]), List.nil_append]
        cases d with
        | true => rw [if_neg (by simp), List.nil_append]; exact ih true
        | false =>
          rw [if_pos ⟨rfl, hc⟩]
          exact List.pairwise_cons.2 ⟨fun x hx => by have := hck true x hx (.inl rfl); rw [hk] at this; exact this, ih true⟩
      · have hgt : key < c.1 := by
          rcases List.le_iff_lt_or_eq.1 (List.not_lt.1 hc) with e | e
          · exact e
          · exact absurd e.symm hk
        rw [if_pos hk]
        have h3 : Rises ([c] ++ putL key s true t) := List.pairwise_cons.2 ⟨fun x hx => hck true x hx (.inl rfl), ih true⟩
        cases d with
        | true => rw [if_neg (by simp), List.nil_append]; exact h3
        | false =>
          rw [if_pos ⟨rfl, hc⟩]
          refine List.pairwise_cons.2 ⟨fun x hx => ?_, h3⟩
          · replace hx : x ∈ [c] ++ putL key s true t := hx
            rcases List.mem_append.1 hx with e | e
            · rw [List.mem_singleton.1 e]; exact hgt
            · exact bs_tr hgt (hck true x e (.inl rfl))
theorem mem_setC {l : List Cel} {key : Bs} {v : Bool × Bs} {x : Cel} (h : Rises l) (hh : v.1 = true ∨ hasC l key = true) : x ∈ setC l key v ↔ (x ∈ l ∧ x.1 ≠ key) ∨ (v.1 = true ∧ x = (key, v.2)) := by
  rw [← put_eq h hh, mem_putL]
  cases v.1 <;> simp
theorem rises_setC {l : List Cel} {key : Bs} {v : Bool × Bs} (h : Rises l) (hh : v.1 = true ∨ hasC l key = true) : Rises (setC l key v) := by
  rw [← put_eq h hh]; exact rises_putL h
theorem setC_len (l : List Cel) (key : Bs) (v : Bool × Bs) : (setC l key v).length ≤ l.length + (if v.1 = true ∧ hasC l key = false then 1 else 0) := by
  unfold setC insAt
  split
  · rename_i h; split
    · rename_i g; simp
    · rename_i g
      rw [if_pos ⟨h, by simpa using g⟩]
      simp only [List.length_append, List.length_take, List.length_drop, List.length_cons, List.length_nil]; omega
  · simp only [List.length_append, List.length_take, List.length_drop]; omega
theorem set_right {no gsn g : Int} {l : List Cel} {key : Bs} {v : Bool × Bs} (h : setE no gsn l key v g = 0) : pageR no g (setC l key v) = true ∧ Rises l ∧ (v.1 = true ∨ hasC l key = true) ∧ pageR no gsn l = true ∧ keyR key = true ∧ valR v = true ∧ gsn < g ∧ g ≤ 4611686018427387903 := by
  obtain ⟨h1, h2, h3, h4, h5⟩ := setE_one (by rw [h]; decide)
  have hok := setE_ok (g := g) h1 h2 h3 (by omega) (by omega)
  rw [h] at hok
  have hp := pageR_iff.1 h1
  have hc := cellsR_iff.1 hp.2
  have hv : v.1 = true ∨ hasC l key = true := by
    cases e1 : v.1 with
    | true => exact .inl rfl
    | false =>
      cases e2 : hasC l key with
      | true => exact .inr rfl
      | false => rw [if_pos ⟨e1, e2⟩] at hok; cases hok
  have hlen : (setC l key v).length ≤ 8 := by
    have := setC_len l key v
    split at this
    · rename_i g
      rw [if_neg (by rw [g.1]; simp)] at hok
      split at hok
      · cases hok
      · rename_i g2
        have : ¬ 8 ≤ l.length := fun e => g2 ⟨g.1, g.2, e⟩
        omega
    · omega
  refine ⟨pageR_iff.2 ⟨by omega, cellsR_iff.2 ⟨fun c hm => ?_, rises_setC hc.2.1 hv, hlen⟩⟩, hc.2.1, hv, h1, h2, h3, h4, h5⟩
  rcases (mem_setC hc.2.1 hv).1 hm with ⟨g1, _⟩ | ⟨g1, g2⟩
  · exact hc.1 c g1
  · rw [g2]; unfold celOk
    rw [h2, show ((true, v.2) : Bool × Bs) = v by rw [← g1]]; exact h3
end Go.Q
namespace Go.Q
open Go.Proofs
set_option linter.unusedVariables false
set_option maxRecDepth 100000
attribute [local irreducible] wpList OK Code.wp
set_option maxHeartbeats 4000000 in
theorem r11set_c {E w : World} {R : List Hp} {no : Int} {gsn : Int} {v_l : Value} {l : List Cel} {key : Bs} {v : Bool × Bs} {g : Int}  (hH : Has E w [R]) (h_l : Sl R 2 v_l l.length (l.flatMap ceC)) (hn : l.length ≤ 1000) :
    Calls Tryz.prog 33 #[(.agg #[(.int .i64 no), (.int .i64 gsn), v_l]), (S key), (.agg #[(.bool v.1), (S v.2)]), (.int .i64 g)] w fun e w' => ∃ (v1' : Value) (s2' : List Hp), e = .returned (.tuple #[(.agg #[(.int .i64 (setNo no gsn l key v g)), (.int .i64 (setG no gsn l key v g)), v1']), (.int .i64 (setE no gsn l key v g))]) ∧ (Own 70 2 v1' (setL no gsn l key v g).length ((setL no gsn l key v g).flatMap ceC) s2') ∧ Has E w' [s2', R] := by
  refine c_enter (args := [(.agg #[(.int .i64 no), (.int .i64 gsn), v_l]), (S key), (.agg #[(.bool v.1), (S v.2)]), (.int .i64 g)]) Tryz.func33 rfl Tryz.ntmps33 (by simp) ?_
  refine wp_seq_k fun K1 hK1 => ?_
  refine c_region ?_
  refine s_op (o_box (cs := #[(.int .i64 no), (.int .i64 gsn), v_l]) rfl rfl hH fun b2 w3 hH4 => ?_)
  refine s_op (o_box (cs := #[(.bool v.1), (S v.2)]) rfl rfl hH4 fun b5 w6 hH7 => ?_)
  refine s_op (o_alloc (cs := #[(.int .i64 0), (.int .i64 0), (.slice none 0 0)]) ti36 rfl hH7 fun b8 w9 hH10 => ?_)
  refine s_op (o_assign (v := (.int .i64 0)) rfl ?_)
  refine s_nil ?_
  refine t_norm (hK1 _ _ ?_)
  refine wp_seq_k fun K11 hK11 => ?_
  refine c_region ?_
  refine s_op (o_loadN (cs := [(.int .i64 no), (.int .i64 gsn), v_l]) Tryz.underlying36 rfl ti36 rfl hH10 (seg_sub 2 rfl) (CellsAt.one rfl) ?_)
  refine s_op (o_move (v := (S key)) rfl ?_)
  refine s_op (o_callf (vs := #[(.agg #[(.int .i64 no), (.int .i64 gsn), v_l]), (S key)]) ca73 rfl (args2 rfl rfl) (r11get_c (no := no) (gsn := gsn) (l := l) (key := key) hH10.all (h_l.mono (seg_sub 3 rfl))) ?_)
  rintro _ w14 ⟨rfl, hX12⟩
  refine ⟨_, rfl, ?_⟩
  have hH13 := hX12.of_all
  refine s_op (o_sight (v := (.bool ((getC l key).1))) (fun _ => by kernel_rfl) ?_)
  refine s_op (o_assign (v := (.bool ((getC l key).1))) rfl ?_)
  refine s_nil ?_
  refine t_norm (hK11 _ _ ?_)
  refine wp_seq_k fun K15 hK15 => ?_
  refine wp_block ?_
  refine wp_seq_k fun K16 hK16 => ?_
  refine c_region ?_
  refine s_op (o_loadN (cs := [(.int .i64 no), (.int .i64 gsn), v_l]) Tryz.underlying36 rfl ti36 rfl hH13 (seg_sub 2 rfl) (CellsAt.one rfl) ?_)
  refine s_op (o_callf (vs := #[(.agg #[(.int .i64 no), (.int .i64 gsn), v_l])]) ca17 rfl (args1 rfl) (r11right_c (no := no) (gsn := gsn) (l := l) hH13.all (h_l.mono (seg_sub 3 rfl))) ?_)
  rintro _ w19 ⟨rfl, hX17⟩
  refine ⟨_, rfl, ?_⟩
  have hH18 := hX17.of_all
  refine s_op (o_not rfl ?_)
  refine s_op (o_move (v := (.bool (!(pageR no gsn l)))) rfl ?_)
  rcases Bool.eq_false_or_eq_true (!(pageR no gsn l)) with h20 | h20
  · -- !(pageR no gsn l)
    have h20_n : (pageR no gsn l) = false := by first | simpa using h20 | exact Bool.of_not_eq_true (fun g_ => by rw [g_] at h20; cases h20)
    refine s_off (b' := true) 19 rfl (congrArg Value.bool h20) rfl ?_
    refine s_off (b' := true) 19 rfl (congrArg Value.bool h20) rfl ?_
    refine s_off (b' := true) 19 rfl (congrArg Value.bool h20) rfl ?_
    refine s_op (o_pick_t (u := (.bool true)) ((rfl : _ = _).trans (congrArg Value.bool h20)) rfl ?_)
    refine s_op (o_move (v := (.bool true)) rfl ?_)
    refine s_off (b' := true) 24 rfl rfl rfl ?_
    refine s_off (b' := true) 24 rfl rfl rfl ?_
    refine s_off (b' := true) 24 rfl rfl rfl ?_
    refine s_op (o_pick_t (u := (.bool true)) rfl rfl ?_)
    refine s_op (o_move (v := (.bool true)) rfl ?_)
    refine s_off (b' := true) 29 rfl rfl rfl ?_
    refine s_off (b' := true) 29 rfl rfl rfl ?_
    refine s_off (b' := true) 29 rfl rfl rfl ?_
    refine s_off (b' := true) 29 rfl rfl rfl ?_
    refine s_op (o_pick_t (u := (.bool true)) rfl rfl ?_)
    refine s_op (o_move (v := (.bool true)) rfl ?_)
    refine s_off (b' := true) 35 rfl rfl rfl ?_
    refine s_off (b' := true) 35 rfl rfl rfl ?_
    refine s_op (o_pick_t (u := (.bool true)) rfl rfl ?_)
    refine s_op (o_assign (v := (.bool true)) rfl ?_)
    refine s_nil ?_
    refine t_norm (hK16 _ _ ?_)
    refine c_true rfl rfl ?_
    refine wp_seq_k fun K21 hK21 => ?_
    refine c_region ?_
    refine s_op (o_sight (v := (.agg #[(.int .i64 0), (.int .i64 0), (.slice none 0 0)])) (fun _ => by kernel_rfl) ?_)
    refine s_eff (o_storeN (vs := [(.int .i64 0), (.int .i64 0), (.slice none 0 0)]) (c' := #[(.int .i64 0), (.int .i64 0), (.slice none 0 0)]) ti36 rfl rfl rfl rfl (by intro u hu; simp only [List.mem_cons, List.not_mem_nil, or_false] at hu; rcases hu with rfl | rfl | rfl <;> first | rfl) (by simp) (by kernel_rfl) (hH18.front 0 rfl) fun w22 hH23 => ?_)
    refine s_op (o_assign (v := (.int .i64 1)) rfl ?_)
    refine s_nil ?_
    refine t_norm (hK21 _ _ ?_)
    refine wp_ret ?_
    refine b_ret (t_ret (c_retC2 Tryz.results33 rfl (run_loadVarN (cs := [(.int .i64 0), (.int .i64 0), (.slice none 0 0)]) Tryz.underlying36 rfl ti36 hH23 (seg_sub 0 rfl) (CellsAt.one rfl)) (x := (.int .i64 1)) rfl ?_))
    have hE_ : setE no gsn l key v g = 1 := setE_bad (by first | exact .inl (by simpa using h20) | exact .inr (.inl (by simpa using h20)) | exact .inr (.inr (.inl (by simpa using h20))) | exact .inl (by simpa using h20_n) | exact .inr (.inl (by simpa using h20_n)) | exact .inr (.inr (.inl (by simpa using h20_n))) | exact .inr (.inr (.inr (.inl (by omega)))) | exact .inr (.inr (.inr (.inr (by omega)))))
    have q24 : (setNo no gsn l key v g) = 0 := by unfold setNo; rw [if_neg (by rw [hE_]; decide)]
    have q25 : (setG no gsn l key v g) = 0 := by unfold setG; rw [if_neg (by rw [hE_]; decide)]
    have q26 : (setL no gsn l key v g) = ([] : List Cel) := by unfold setL; rw [if_neg (by rw [hE_]; decide)]
    have q27 : (setE no gsn l key v g) = 1 := by exact hE_
    have hH28 : Has E w22 [[], R] := (Has.nil (hH23.front 3 rfl)).first 2 rfl
    exact ⟨_, _, by rw [q24, q25]; rw [q27], (by rw [q26]; exact (Own.nil 70 2)), hH28⟩
  · -- not: !(pageR no gsn l)
    have h20_n : (pageR no gsn l) = true := by first | simpa using h20 | exact Bool.of_not_eq_false (fun g_ => by rw [g_] at h20; cases h20)
    refine s_on 19 rfl (congrArg Value.bool h20) (o_move (v := (S key)) rfl ?_)
    refine s_on 19 rfl (congrArg Value.bool h20) (o_callf (vs := #[(S key)]) ca55 rfl (args1 rfl) (rkey_c (k := key) hH18.all ) ?_)
    rintro _ w31 ⟨rfl, hX29⟩
    refine ⟨_, rfl, ?_⟩
    have hH30 := hX29.of_all
    refine s_on 19 rfl (congrArg Value.bool h20) (o_not rfl ?_)
    refine s_op (o_pick_f (u := (.bool (!(keyR key)))) ((rfl : _ = _).trans (congrArg Value.bool h20)) rfl ?_)
    refine s_op (o_move (v := (.bool (!(keyR key)))) rfl ?_)
    rcases Bool.eq_false_or_eq_true (!(keyR key)) with h32 | h32
    · -- !(keyR key)
      have h32_n : (keyR key) = false := by first | simpa using h32 | exact Bool.of_not_eq_true (fun g_ => by rw [g_] at h32; cases h32)
      refine s_off (b' := true) 24 rfl (congrArg Value.bool h32) rfl ?_
      refine s_off (b' := true) 24 rfl (congrArg Value.bool h32) rfl ?_
      refine s_off (b' := true) 24 rfl (congrArg Value.bool h32) rfl ?_
      refine s_op (o_pick_t (u := (.bool true)) ((rfl : _ = _).trans (congrArg Value.bool h32)) rfl ?_)
      refine s_op (o_move (v := (.bool true)) rfl ?_)
      refine s_off (b' := true) 29 rfl rfl rfl ?_
      refine s_off (b' := true) 29 rfl rfl rfl ?_
      refine s_off (b' := true) 29 rfl rfl rfl ?_
      refine s_off (b' := true) 29 rfl rfl rfl ?_
      refine s_op (o_pick_t (u := (.bool true)) rfl rfl ?_)
      refine s_op (o_move (v := (.bool true)) rfl ?_)
      refine s_off (b' := true) 35 rfl rfl rfl ?_
      refine s_off (b' := true) 35 rfl rfl rfl ?_
      refine s_op (o_pick_t (u := (.bool true)) rfl rfl ?_)
      refine s_op (o_assign (v := (.bool true)) rfl ?_)
      refine s_nil ?_
      refine t_norm (hK16 _ _ ?_)
      refine c_true rfl rfl ?_
      refine wp_seq_k fun K33 hK33 => ?_
      refine c_region ?_
      refine s_op (o_sight (v := (.agg #[(.int .i64 0), (.int .i64 0), (.slice none 0 0)])) (fun _ => by kernel_rfl) ?_)
      refine s_eff (o_storeN (vs := [(.int .i64 0), (.int .i64 0), (.slice none 0 0)]) (c' := #[(.int .i64 0), (.int .i64 0), (.slice none 0 0)]) ti36 rfl rfl rfl rfl (by intro u hu; simp only [List.mem_cons, List.not_mem_nil, or_false] at hu; rcases hu with rfl | rfl | rfl <;> first | rfl) (by simp) (by kernel_rfl) (hH30.front 0 rfl) fun w34 hH35 => ?_)
      refine s_op (o_assign (v := (.int .i64 1)) rfl ?_)
      refine s_nil ?_
      refine t_norm (hK33 _ _ ?_)
      refine wp_ret ?_
      refine b_ret (t_ret (c_retC2 Tryz.results33 rfl (run_loadVarN (cs := [(.int .i64 0), (.int .i64 0), (.slice none 0 0)]) Tryz.underlying36 rfl ti36 hH35 (seg_sub 0 rfl) (CellsAt.one rfl)) (x := (.int .i64 1)) rfl ?_))
      have hE_ : setE no gsn l key v g = 1 := setE_bad (by first | exact .inl (by simpa using h20) | exact .inr (.inl (by simpa using h20)) | exact .inr (.inr (.inl (by simpa using h20))) | exact .inl (by simpa using h20_n) | exact .inr (.inl (by simpa using h20_n)) | exact .inr (.inr (.inl (by simpa using h20_n))) | exact .inl (by simpa using h32) | exact .inr (.inl (by simpa using h32)) | exact .inr (.inr (.inl (by simpa using h32))) | exact .inl (by simpa using h32_n) | exact .inr (.inl (by simpa using h32_n)) | exact .inr (.inr (.inl (by simpa using h32_n))) | exact .inr (.inr (.inr (.inl (by omega)))) | exact .inr (.inr (.inr (.inr (by omega)))))
      have q36 : (setNo no gsn l key v g) = 0 := by unfold setNo; rw [if_neg (by rw [hE_]; decide)]
      have q37 : (setG no gsn l key v g) = 0 := by unfold setG; rw [if_neg (by rw [hE_]; decide)]
      have q38 : (setL no gsn l key v g) = ([] : List Cel) := by unfold setL; rw [if_neg (by rw [hE_]; decide)]
      have q39 : (setE no gsn l key v g) = 1 := by exact hE_
      have hH40 : Has E w34 [[], R] := (Has.nil (hH35.front 3 rfl)).first 2 rfl
      exact ⟨_, _, by rw [q36, q37]; rw [q39], (by rw [q38]; exact (Own.nil 70 2)), hH40⟩
    · -- not: !(keyR key)
      have h32_n : (keyR key) = true := by first | simpa using h32 | exact Bool.of_not_eq_false (fun g_ => by rw [g_] at h32; cases h32)
      refine s_on 24 rfl (congrArg Value.bool h32) (o_loadN (cs := [(.bool v.1), (S v.2)]) Tryz.underlying62 rfl ti62 rfl hH30 (seg_sub 1 rfl) (CellsAt.one rfl) ?_)
      refine s_on 24 rfl (congrArg Value.bool h32) (o_callf (vs := #[(.agg #[(.bool v.1), (S v.2)])]) ca74 rfl (args1 rfl) (rvalue_c (v := (v.1, v.2)) hH30.all ) ?_)
      rintro _ w43 ⟨rfl, hX41⟩
      refine ⟨_, rfl, ?_⟩
      have hH42 := hX41.of_all
      refine s_on 24 rfl (congrArg Value.bool h32) (o_not rfl ?_)
      refine s_op (o_pick_f (u := (.bool (!(valR (v.1, v.2))))) ((rfl : _ = _).trans (congrArg Value.bool h32)) rfl ?_)
      refine s_op (o_move (v := (.bool (!(valR (v.1, v.2))))) rfl ?_)
      rcases Bool.eq_false_or_eq_true (!(valR (v.1, v.2))) with h44 | h44
      · -- !(valR (v.1, v.2))
        have h44_n : (valR (v.1, v.2)) = false := by first | simpa using h44 | exact Bool.of_not_eq_true (fun g_ => by rw [g_] at h44; cases h44)
        refine s_off (b' := true) 29 rfl (congrArg Value.bool h44) rfl ?_
        refine s_off (b' := true) 29 rfl (congrArg Value.bool h44) rfl ?_
        refine s_off (b' := true) 29 rfl (congrArg Value.bool h44) rfl ?_
        refine s_off (b' := true) 29 rfl (congrArg Value.bool h44) rfl ?_
        refine s_op (o_pick_t (u := (.bool true)) ((rfl : _ = _).trans (congrArg Value.bool h44)) rfl ?_)
        refine s_op (o_move (v := (.bool true)) rfl ?_)
        refine s_off (b' := true) 35 rfl rfl rfl ?_
        refine s_off (b' := true) 35 rfl rfl rfl ?_
        refine s_op (o_pick_t (u := (.bool true)) rfl rfl ?_)
        refine s_op (o_assign (v := (.bool true)) rfl ?_)
        refine s_nil ?_
        refine t_norm (hK16 _ _ ?_)
        refine c_true rfl rfl ?_
        refine wp_seq_k fun K45 hK45 => ?_
        refine c_region ?_
        refine s_op (o_sight (v := (.agg #[(.int .i64 0), (.int .i64 0), (.slice none 0 0)])) (fun _ => by kernel_rfl) ?_)
        refine s_eff (o_storeN (vs := [(.int .i64 0), (.int .i64 0), (.slice none 0 0)]) (c' := #[(.int .i64 0), (.int .i64 0), (.slice none 0 0)]) ti36 rfl rfl rfl rfl (by intro u hu; simp only [List.mem_cons, List.not_mem_nil, or_false] at hu; rcases hu with rfl | rfl | rfl <;> first | rfl) (by simp) (by kernel_rfl) (hH42.front 0 rfl) fun w46 hH47 => ?_)
        refine s_op (o_assign (v := (.int .i64 1)) rfl ?_)
        refine s_nil ?_
        refine t_norm (hK45 _ _ ?_)
        refine wp_ret ?_
        refine b_ret (t_ret (c_retC2 Tryz.results33 rfl (run_loadVarN (cs := [(.int .i64 0), (.int .i64 0), (.slice none 0 0)]) Tryz.underlying36 rfl ti36 hH47 (seg_sub 0 rfl) (CellsAt.one rfl)) (x := (.int .i64 1)) rfl ?_))
        have hE_ : setE no gsn l key v g = 1 := setE_bad (by first | exact .inl (by simpa using h20) | exact .inr (.inl (by simpa using h20)) | exact .inr (.inr (.inl (by simpa using h20))) | exact .inl (by simpa using h20_n) | exact .inr (.inl (by simpa using h20_n)) | exact .inr (.inr (.inl (by simpa using h20_n))) | exact .inl (by simpa using h32) | exact .inr (.inl (by simpa using h32)) | exact .inr (.inr (.inl (by simpa using h32))) | exact .inl (by simpa using h32_n) | exact .inr (.inl (by simpa using h32_n)) | exact .inr (.inr (.inl (by simpa using h32_n))) | exact .inl (by simpa using h44) | exact .inr (.inl (by simpa using h44)) | exact .inr (.inr (.inl (by simpa using h44))) | exact .inl (by simpa using h44_n) | exact .inr (.inl (by simpa using h44_n)) | exact .inr (.inr (.inl (by simpa using h44_n))) | exact .inr (.inr (.inr (.inl (by omega)))) | exact .inr (.inr (.inr (.inr (by omega)))))
        have q48 : (setNo no gsn l key v g) = 0 := by unfold setNo; rw [if_neg (by rw [hE_]; decide)]
        have q49 : (setG no gsn l key v g) = 0 := by unfold setG; rw [if_neg (by rw [hE_]; decide)]
        have q50 : (setL no gsn l key v g) = ([] : List Cel) := by unfold setL; rw [if_neg (by rw [hE_]; decide)]
        have q51 : (setE no gsn l key v g) = 1 := by exact hE_
        have hH52 : Has E w46 [[], R] := (Has.nil (hH47.front 3 rfl)).first 2 rfl
        exact ⟨_, _, by rw [q48, q49]; rw [q51], (by rw [q50]; exact (Own.nil 70 2)), hH52⟩
      · -- not: !(valR (v.1, v.2))
        have h44_n : (valR (v.1, v.2)) = true := by first | simpa using h44 | exact Bool.of_not_eq_false (fun g_ => by rw [g_] at h44; cases h44)
        refine s_on 29 rfl (congrArg Value.bool h44) (o_move (v := (.int .i64 g)) rfl ?_)
        refine s_on 29 rfl (congrArg Value.bool h44) (o_fieldAddr (k := 1) (fun _ => by kernel_rfl) rfl ?_)
        refine s_on 29 rfl (congrArg Value.bool h44) (o_load1 (v := (.int .i64 gsn)) Tryz.underlying3 rfl rfl hH42 (seg_sub 2 rfl) (CellsAt.one rfl) ?_)
        refine s_on 29 rfl (congrArg Value.bool h44) (o_leq (a := g) (b := gsn) rfl rfl ?_)
        refine s_op (o_pick_f (u := (.bool (decide (g ≤ gsn)))) ((rfl : _ = _).trans (congrArg Value.bool h44)) rfl ?_)
        refine s_op (o_move (v := (.bool (decide (g ≤ gsn)))) rfl ?_)
        by_cases h53 : g ≤ gsn
        · -- g ≤ gsn
          refine s_off (b' := true) 35 rfl (congrArg Value.bool (decide_eq_true h53)) rfl ?_
          refine s_off (b' := true) 35 rfl (congrArg Value.bool (decide_eq_true h53)) rfl ?_
          refine s_op (o_pick_t (u := (.bool true)) ((rfl : _ = _).trans (congrArg Value.bool (decide_eq_true h53))) rfl ?_)
          refine s_op (o_assign (v := (.bool true)) rfl ?_)
          refine s_nil ?_
          refine t_norm (hK16 _ _ ?_)
          refine c_true rfl rfl ?_
          refine wp_seq_k fun K54 hK54 => ?_
          refine c_region ?_
          refine s_op (o_sight (v := (.agg #[(.int .i64 0), (.int .i64 0), (.slice none 0 0)])) (fun _ => by kernel_rfl) ?_)
          refine s_eff (o_storeN (vs := [(.int .i64 0), (.int .i64 0), (.slice none 0 0)]) (c' := #[(.int .i64 0), (.int .i64 0), (.slice none 0 0)]) ti36 rfl rfl rfl rfl (by intro u hu; simp only [List.mem_cons, List.not_mem_nil, or_false] at hu; rcases hu with rfl | rfl | rfl <;> first | rfl) (by simp) (by kernel_rfl) (hH42.front 0 rfl) fun w55 hH56 => ?_)
          refine s_op (o_assign (v := (.int .i64 1)) rfl ?_)
          refine s_nil ?_
          refine t_norm (hK54 _ _ ?_)
          refine wp_ret ?_
          refine b_ret (t_ret (c_retC2 Tryz.results33 rfl (run_loadVarN (cs := [(.int .i64 0), (.int .i64 0), (.slice none 0 0)]) Tryz.underlying36 rfl ti36 hH56 (seg_sub 0 rfl) (CellsAt.one rfl)) (x := (.int .i64 1)) rfl ?_))
          have hE_ : setE no gsn l key v g = 1 := setE_bad (by first | exact .inl (by simpa using h20) | exact .inr (.inl (by simpa using h20)) | exact .inr (.inr (.inl (by simpa using h20))) | exact .inl (by simpa using h20_n) | exact .inr (.inl (by simpa using h20_n)) | exact .inr (.inr (.inl (by simpa using h20_n))) | exact .inl (by simpa using h32) | exact .inr (.inl (by simpa using h32)) | exact .inr (.inr (.inl (by simpa using h32))) | exact .inl (by simpa using h32_n) | exact .inr (.inl (by simpa using h32_n)) | exact .inr (.inr (.inl (by simpa using h32_n))) | exact .inl (by simpa using h44) | exact .inr (.inl (by simpa using h44)) | exact .inr (.inr (.inl (by simpa using h44))) | exact .inl (by simpa using h44_n) | exact .inr (.inl (by simpa using h44_n)) | exact .inr (.inr (.inl (by simpa using h44_n))) | exact .inl (by simpa using h53) | exact .inr (.inl (by simpa using h53)) | exact .inr (.inr (.inl (by simpa using h53))) | exact .inr (.inr (.inr (.inl (by omega)))) | exact .inr (.inr (.inr (.inr (by omega)))))
          have q57 : (setNo no gsn l key v g) = 0 := by unfold setNo; rw [if_neg (by rw [hE_]; decide)]
          have q58 : (setG no gsn l key v g) = 0 := by unfold setG; rw [if_neg (by rw [hE_]; decide)]
          have q59 : (setL no gsn l key v g) = ([] : List Cel) := by unfold setL; rw [if_neg (by rw [hE_]; decide)]
          have q60 : (setE no gsn l key v g) = 1 := by exact hE_
          have hH61 : Has E w55 [[], R] := (Has.nil (hH56.front 3 rfl)).first 2 rfl
          exact ⟨_, _, by rw [q57, q58]; rw [q60], (by rw [q59]; exact (Own.nil 70 2)), hH61⟩
        · -- not: g ≤ gsn
          refine s_on 35 rfl (congrArg Value.bool (decide_eq_false h53)) (o_move (v := (.int .i64 g)) rfl ?_)
          refine s_on 35 rfl (congrArg Value.bool (decide_eq_false h53)) (o_geq (a := g) (b := 4611686018427387904) rfl rfl ?_)
          refine s_op (o_pick_f (u := (.bool (decide (4611686018427387904 ≤ g)))) ((rfl : _ = _).trans (congrArg Value.bool (decide_eq_false h53))) rfl ?_)
          refine s_op (o_assign (v := (.bool (decide (4611686018427387904 ≤ g)))) rfl ?_)
          refine s_nil ?_
          refine t_norm (hK16 _ _ ?_)
          refine c_cond rfl (fun h62 => ?_) (fun h62 => ?_)
          · -- 4611686018427387904 ≤ g
            refine wp_seq_k fun K63 hK63 => ?_
            refine c_region ?_
            refine s_op (o_sight (v := (.agg #[(.int .i64 0), (.int .i64 0), (.slice none 0 0)])) (fun _ => by kernel_rfl) ?_)
            refine s_eff (o_storeN (vs := [(.int .i64 0), (.int .i64 0), (.slice none 0 0)]) (c' := #[(.int .i64 0), (.int .i64 0), (.slice none 0 0)]) ti36 rfl rfl rfl rfl (by intro u hu; simp only [List.mem_cons, List.not_mem_nil, or_false] at hu; rcases hu with rfl | rfl | rfl <;> first | rfl) (by simp) (by kernel_rfl) (hH42.front 0 rfl) fun w65 hH66 => ?_)
            refine s_op (o_assign (v := (.int .i64 1)) rfl ?_)
            refine s_nil ?_
            refine t_norm (hK63 _ _ ?_)
            refine wp_ret ?_
            refine b_ret (t_ret (c_retC2 Tryz.results33 rfl (run_loadVarN (cs := [(.int .i64 0), (.int .i64 0), (.slice none 0 0)]) Tryz.underlying36 rfl ti36 hH66 (seg_sub 0 rfl) (CellsAt.one rfl)) (x := (.int .i64 1)) rfl ?_))
            have hE_ : setE no gsn l key v g = 1 := setE_bad (by first | exact .inl (by simpa using h20) | exact .inr (.inl (by simpa using h20)) | exact .inr (.inr (.inl (by simpa using h20))) | exact .inl (by simpa using h20_n) | exact .inr (.inl (by simpa using h20_n)) | exact .inr (.inr (.inl (by simpa using h20_n))) | exact .inl (by simpa using h32) | exact .inr (.inl (by simpa using h32)) | exact .inr (.inr (.inl (by simpa using h32))) | exact .inl (by simpa using h32_n) | exact .inr (.inl (by simpa using h32_n)) | exact .inr (.inr (.inl (by simpa using h32_n))) | exact .inl (by simpa using h44) | exact .inr (.inl (by simpa using h44)) | exact .inr (.inr (.inl (by simpa using h44))) | exact .inl (by simpa using h44_n) | exact .inr (.inl (by simpa using h44_n)) | exact .inr (.inr (.inl (by simpa using h44_n))) | exact .inl (by simpa using h53) | exact .inr (.inl (by simpa using h53)) | exact .inr (.inr (.inl (by simpa using h53))) | exact .inl (by simpa using h62) | exact .inr (.inl (by simpa using h62)) | exact .inr (.inr (.inl (by simpa using h62))) | exact .inr (.inr (.inr (.inl (by omega)))) | exact .inr (.inr (.inr (.inr (by omega)))))
            have q67 : (setNo no gsn l key v g) = 0 := by unfold setNo; rw [if_neg (by rw [hE_]; decide)]
            have q68 : (setG no gsn l key v g) = 0 := by unfold setG; rw [if_neg (by rw [hE_]; decide)]
            have q69 : (setL no gsn l key v g) = ([] : List Cel) := by unfold setL; rw [if_neg (by rw [hE_]; decide)]
            have q70 : (setE no gsn l key v g) = 1 := by exact hE_
            have hH71 : Has E w65 [[], R] := (Has.nil (hH66.front 3 rfl)).first 2 rfl
            exact ⟨_, _, by rw [q67, q68]; rw [q70], (by rw [q69]; exact (Own.nil 70 2)), hH71⟩
          · -- not: 4611686018427387904 ≤ g
            have hP_ := pageR_iff.1 (by first | (simpa using h20) | (simpa using h20_n))
            have hC_ := cellsR_iff.1 hP_.2
            have hs := hC_.2.1
            have hl := hC_.2.2
            have hok_ := setE_ok (g := g) (v := v) (key := key) (by first | (simpa using h20) | (simpa using h20_n)) (by first | (simpa using h32) | (simpa using h32_n)) (by first | (simpa using h44) | (simpa using h44_n)) (by omega) (by omega)
            refine wp_seq_k fun K72 hK72 => ?_
            refine c_region ?_
            refine s_op (o_fieldAddr (k := 0) (fun _ => by kernel_rfl) rfl ?_)
            refine s_op (o_load1 (v := (.bool v.1)) Tryz.underlying4 rfl rfl hH42 (seg_sub 1 rfl) (CellsAt.one rfl) ?_)
            refine s_op (o_not rfl ?_)
            refine s_op (o_move (v := (.bool (!v.1))) rfl ?_)
            rcases Bool.eq_false_or_eq_true (!v.1) with h73 | h73
            · -- !v.1
              have h73_n : v.1 = false := by first | simpa using h73 | exact Bool.of_not_eq_true (fun g_ => by rw [g_] at h73; cases h73)
              refine s_on 44 rfl (congrArg Value.bool h73) (o_move (v := (.bool ((getC l key).1))) rfl ?_)
              refine s_on 44 rfl (congrArg Value.bool h73) (o_not rfl ?_)
              refine s_op (o_pick_t (u := (.bool (!((getC l key).1)))) ((rfl : _ = _).trans (congrArg Value.bool h73)) rfl ?_)
              refine s_op (o_assign (v := (.bool (!((getC l key).1)))) rfl ?_)
              refine s_nil ?_
              refine t_norm (hK72 _ _ ?_)
              refine c_condb rfl (fun h74 => ?_) (fun h74 => ?_)
              · -- !((getC l key).1)
                have h74_n : ((getC l key).1) = false := by first | simpa using h74 | exact Bool.of_not_eq_true (fun g_ => by rw [g_] at h74; cases h74)
                refine wp_seq_k fun K75 hK75 => ?_
                refine c_region ?_
                refine s_op (o_sight (v := (.agg #[(.int .i64 0), (.int .i64 0), (.slice none 0 0)])) (fun _ => by kernel_rfl) ?_)
                refine s_eff (o_storeN (vs := [(.int .i64 0), (.int .i64 0), (.slice none 0 0)]) (c' := #[(.int .i64 0), (.int .i64 0), (.slice none 0 0)]) ti36 rfl rfl rfl rfl (by intro u hu; simp only [List.mem_cons, List.not_mem_nil, or_false] at hu; rcases hu with rfl | rfl | rfl <;> first | rfl) (by simp) (by kernel_rfl) (hH42.front 0 rfl) fun w76 hH77 => ?_)
                refine s_op (o_assign (v := (.int .i64 7)) rfl ?_)
                refine s_nil ?_
                refine t_norm (hK75 _ _ ?_)
                refine wp_ret ?_
                refine b_ret (t_ret (c_retC2 Tryz.results33 rfl (run_loadVarN (cs := [(.int .i64 0), (.int .i64 0), (.slice none 0 0)]) Tryz.underlying36 rfl ti36 hH77 (seg_sub 0 rfl) (CellsAt.one rfl)) (x := (.int .i64 7)) rfl ?_))
                have hv1_ : v.1 = false := by simpa using h73
                have hgc_ : (getC l key).1 = false := by simpa using h74
                rw [getC_has] at hgc_
                have hE_ : setE no gsn l key v g = 7 := by rw [hok_]; simp [hv1_, hgc_]; try omega
                have q78 : (setNo no gsn l key v g) = 0 := by unfold setNo; rw [if_neg (by rw [hE_]; decide)]
                have q79 : (setG no gsn l key v g) = 0 := by unfold setG; rw [if_neg (by rw [hE_]; decide)]
                have q80 : (setL no gsn l key v g) = ([] : List Cel) := by unfold setL; rw [if_neg (by rw [hE_]; decide)]
                have q81 : (setE no gsn l key v g) = 7 := by exact hE_
                have hH82 : Has E w76 [[], R] := (Has.nil (hH77.front 3 rfl)).first 2 rfl
                exact ⟨_, _, by rw [q78, q79]; rw [q81], (by rw [q80]; exact (Own.nil 70 2)), hH82⟩
              · -- not: !((getC l key).1)
                have h74_n : ((getC l key).1) = true := by first | simpa using h74 | exact Bool.of_not_eq_false (fun g_ => by rw [g_] at h74; cases h74)
                refine wp_seq_k fun K83 hK83 => ?_
                refine c_region ?_
                refine s_op (o_fieldAddr (k := 0) (fun _ => by kernel_rfl) rfl ?_)
                refine s_op (o_load1 (v := (.bool v.1)) Tryz.underlying4 rfl rfl hH42 (seg_sub 1 rfl) (CellsAt.one rfl) ?_)
                refine s_op (o_move (v := (.bool v.1)) rfl ?_)
                refine s_off (b' := false) 52 rfl (congrArg Value.bool h73_n) rfl ?_
                refine s_off (b' := false) 52 rfl (congrArg Value.bool h73_n) rfl ?_
                refine s_op (o_pick_f (u := (.bool false)) ((rfl : _ = _).trans (congrArg Value.bool h73_n)) rfl ?_)
                refine s_op (o_move (v := (.bool false)) rfl ?_)
                refine s_off (b' := false) 56 rfl rfl rfl ?_
                refine s_off (b' := false) 56 rfl rfl rfl ?_
                refine s_off (b' := false) 56 rfl rfl rfl ?_
                refine s_off (b' := false) 56 rfl rfl rfl ?_
                refine s_op (o_pick_f (u := (.bool false)) rfl rfl ?_)
                refine s_op (o_assign (v := (.bool false)) rfl ?_)
                refine s_nil ?_
                refine t_norm (hK83 _ _ ?_)
                refine c_false rfl rfl ?_
                refine wp_skip ?_
                refine b_norm ?_
                refine t_norm (hK15 _ _ ?_)
                refine wp_seq_k fun K84 hK84 => ?_
                refine c_region ?_
                refine s_op (o_loadN (cs := [(.int .i64 no), (.int .i64 gsn), v_l]) Tryz.underlying36 rfl ti36 rfl hH42 (seg_sub 2 rfl) (CellsAt.one rfl) ?_)
                refine s_op (o_move (v := (S key)) rfl ?_)
                refine s_op (o_loadN (cs := [(.bool v.1), (S v.2)]) Tryz.underlying62 rfl ti62 rfl hH42 (seg_sub 1 rfl) (CellsAt.one rfl) ?_)
                refine s_op (o_move (v := (.int .i64 g)) rfl ?_)
                refine s_op (o_callf (vs := #[(.agg #[(.int .i64 no), (.int .i64 gsn), v_l]), (S key), (.agg #[(.bool v.1), (S v.2)]), (.int .i64 g)]) ca75 rfl (args4 rfl rfl rfl rfl) (r11put_c (no := no) (gsn := gsn) (l := l) (key := key) (v := (v.1, v.2)) (g := g) hH42.all (h_l.mono (seg_sub 3 rfl)) (by first | omega | (simp only []; omega) | (simp; done) | (simp; omega))) ?_)
                rintro _ w90 ⟨v85, s86, rfl, ho87, hX88⟩
                refine ⟨_, rfl, ?_⟩
                have hH89 : Has E w90 [s86, [Hp.one b8 (.cells #[(.int .i64 0), (.int .i64 0), (.slice none 0 0)] 36 (0, 0))], [Hp.one b5 (.cells #[(.bool v.1), (S v.2)] 62 (0, 0))], [Hp.one b2 (.cells #[(.int .i64 no), (.int .i64 gsn), v_l] 36 (0, 0))], R] := hX88.of_all1
                refine s_eff (o_storeN (vs := [(.int .i64 no), (.int .i64 g), v85]) (c' := #[(.int .i64 no), (.int .i64 g), v85]) ti36 rfl rfl rfl rfl (by intro u hu; simp only [List.mem_cons, List.not_mem_nil, or_false] at hu; rcases hu with rfl | rfl | rfl <;> first | rfl | exact ho87.one) (by simp) (by kernel_rfl) (hH89.front 1 rfl) fun w91 hH92 => ?_)
                refine s_op (o_assign (v := (.int .i64 0)) rfl ?_)
                refine s_nil ?_
                refine t_norm (hK84 _ _ ?_)
                refine wp_ret ?_
                refine c_retC2 Tryz.results33 rfl (run_loadVarN (cs := [(.int .i64 no), (.int .i64 g), v85]) Tryz.underlying36 rfl ti36 hH92 (seg_sub 0 rfl) (CellsAt.one rfl)) (x := (.int .i64 0)) rfl ?_
                have hv1_ : v.1 = false := by simpa using h73
                have hgc_ : (getC l key).1 = true := by simpa using h74
                rw [getC_has] at hgc_
                have hE_ : setE no gsn l key v g = 0 := by rw [hok_]; simp [hv1_, hgc_]; try omega
                have q93 : (setNo no gsn l key v g) = no := by unfold setNo; rw [if_pos hE_]
                have q94 : (setG no gsn l key v g) = g := by unfold setG; rw [if_pos hE_]
                have q95 : (setL no gsn l key v g) = (putL key (v.1, v.2).2 (!(v.1, v.2).1) l) := by unfold setL; rw [if_pos hE_]; exact (put_eq hs (by first | exact .inl hv1_ | exact .inr hgc_)).symm
                have q96 : (setE no gsn l key v g) = 0 := by exact hE_
                have hH97 : Has E w91 [s86, R] := ((hH92.front 4 rfl).front 2 rfl).first 2 rfl
                exact ⟨_, _, by rw [q93, q94]; rw [q96], (by rw [q95]; exact ho87), hH97⟩
            · -- not: !v.1
              have h73_n : v.1 = true := by first | simpa using h73 | exact Bool.of_not_eq_false (fun g_ => by rw [g_] at h73; cases h73)
              refine s_off (b' := false) 44 rfl (congrArg Value.bool h73) rfl ?_
              refine s_off (b' := false) 44 rfl (congrArg Value.bool h73) rfl ?_
              refine s_op (o_pick_f (u := (.bool false)) ((rfl : _ = _).trans (congrArg Value.bool h73)) rfl ?_)
              refine s_op (o_assign (v := (.bool false)) rfl ?_)
              refine s_nil ?_
              refine t_norm (hK72 _ _ ?_)
              refine c_false rfl rfl ?_
              refine wp_seq_k fun K98 hK98 => ?_
              refine c_region ?_
              refine s_op (o_fieldAddr (k := 0) (fun _ => by kernel_rfl) rfl ?_)
              refine s_op (o_load1 (v := (.bool v.1)) Tryz.underlying4 rfl rfl hH42 (seg_sub 1 rfl) (CellsAt.one rfl) ?_)
              refine s_op (o_move (v := (.bool v.1)) rfl ?_)
              refine s_on 52 rfl (congrArg Value.bool h73_n) (o_move (v := (.bool ((getC l key).1))) rfl ?_)
              refine s_on 52 rfl (congrArg Value.bool h73_n) (o_not rfl ?_)
              refine s_op (o_pick_t (u := (.bool (!((getC l key).1)))) ((rfl : _ = _).trans (congrArg Value.bool h73_n)) rfl ?_)
              refine s_op (o_move (v := (.bool (!((getC l key).1)))) rfl ?_)
              rcases Bool.eq_false_or_eq_true (!((getC l key).1)) with h99 | h99
              · -- !((getC l key).1)
                have h99_n : ((getC l key).1) = false := by first | simpa using h99 | exact Bool.of_not_eq_true (fun g_ => by rw [g_] at h99; cases h99)
                refine s_on 56 rfl (congrArg Value.bool h99) (o_fieldAddr (k := 2) (fun _ => by kernel_rfl) rfl ?_)
                refine s_on 56 rfl (congrArg Value.bool h99) (o_load1 (v := v_l) Tryz.underlying34 rfl rfl hH42 (seg_sub 2 rfl) (CellsAt.one rfl) ?_)
                refine s_on 56 rfl (congrArg Value.bool h99) (o_lenS Tryz.underlying34 rfl h_l ?_)
                refine s_on 56 rfl (congrArg Value.bool h99) (o_eql (a := ((l.length : Nat) : Int)) (b := 8) rfl rfl ?_)
                refine s_op (o_pick_t (u := (.bool (decide (((l.length : Nat) : Int) = 8)))) ((rfl : _ = _).trans (congrArg Value.bool h99)) rfl ?_)
                refine s_op (o_assign (v := (.bool (decide (((l.length : Nat) : Int) = 8)))) rfl ?_)
                refine s_nil ?_
                refine t_norm (hK98 _ _ ?_)
                refine c_cond rfl (fun h100 => ?_) (fun h100 => ?_)
                · -- ((l.length : Nat) : Int) = 8
                  refine wp_seq_k fun K101 hK101 => ?_
                  refine c_region ?_
                  refine s_op (o_sight (v := (.agg #[(.int .i64 0), (.int .i64 0), (.slice none 0 0)])) (fun _ => by kernel_rfl) ?_)
                  refine s_eff (o_storeN (vs := [(.int .i64 0), (.int .i64 0), (.slice none 0 0)]) (c' := #[(.int .i64 0), (.int .i64 0), (.slice none 0 0)]) ti36 rfl rfl rfl rfl (by intro u hu; simp only [List.mem_cons, List.not_mem_nil, or_false] at hu; rcases hu with rfl | rfl | rfl <;> first | rfl) (by simp) (by kernel_rfl) (hH42.front 0 rfl) fun w102 hH103 => ?_)
                  refine s_op (o_assign (v := (.int .i64 4)) rfl ?_)
                  refine s_nil ?_
                  refine t_norm (hK101 _ _ ?_)
                  refine wp_ret ?_
                  refine b_ret (t_ret (c_retC2 Tryz.results33 rfl (run_loadVarN (cs := [(.int .i64 0), (.int .i64 0), (.slice none 0 0)]) Tryz.underlying36 rfl ti36 hH103 (seg_sub 0 rfl) (CellsAt.one rfl)) (x := (.int .i64 4)) rfl ?_))
                  have hv1_ : v.1 = true := by simpa using h73
                  have hgc_ : (getC l key).1 = false := by simpa using h99
                  rw [getC_has] at hgc_
                  have hE_ : setE no gsn l key v g = 4 := by rw [hok_]; simp [hv1_, hgc_, h100]; try omega
                  have q104 : (setNo no gsn l key v g) = 0 := by unfold setNo; rw [if_neg (by rw [hE_]; decide)]
                  have q105 : (setG no gsn l key v g) = 0 := by unfold setG; rw [if_neg (by rw [hE_]; decide)]
                  have q106 : (setL no gsn l key v g) = ([] : List Cel) := by unfold setL; rw [if_neg (by rw [hE_]; decide)]
                  have q107 : (setE no gsn l key v g) = 4 := by exact hE_
                  have hH108 : Has E w102 [[], R] := (Has.nil (hH103.front 3 rfl)).first 2 rfl
                  exact ⟨_, _, by rw [q104, q105]; rw [q107], (by rw [q106]; exact (Own.nil 70 2)), hH108⟩
                · -- not: ((l.length : Nat) : Int) = 8
                  refine wp_skip ?_
                  refine b_norm ?_
                  refine t_norm (hK15 _ _ ?_)
                  refine wp_seq_k fun K109 hK109 => ?_
                  refine c_region ?_
                  refine s_op (o_loadN (cs := [(.int .i64 no), (.int .i64 gsn), v_l]) Tryz.underlying36 rfl ti36 rfl hH42 (seg_sub 2 rfl) (CellsAt.one rfl) ?_)
                  refine s_op (o_move (v := (S key)) rfl ?_)
                  refine s_op (o_loadN (cs := [(.bool v.1), (S v.2)]) Tryz.underlying62 rfl ti62 rfl hH42 (seg_sub 1 rfl) (CellsAt.one rfl) ?_)
                  refine s_op (o_move (v := (.int .i64 g)) rfl ?_)
                  refine s_op (o_callf (vs := #[(.agg #[(.int .i64 no), (.int .i64 gsn), v_l]), (S key), (.agg #[(.bool v.1), (S v.2)]), (.int .i64 g)]) ca75 rfl (args4 rfl rfl rfl rfl) (r11put_c (no := no) (gsn := gsn) (l := l) (key := key) (v := (v.1, v.2)) (g := g) hH42.all (h_l.mono (seg_sub 3 rfl)) (by first | omega | (simp only []; omega) | (simp; done) | (simp; omega))) ?_)
                  rintro _ w115 ⟨v110, s111, rfl, ho112, hX113⟩
                  refine ⟨_, rfl, ?_⟩
                  have hH114 : Has E w115 [s111, [Hp.one b8 (.cells #[(.int .i64 0), (.int .i64 0), (.slice none 0 0)] 36 (0, 0))], [Hp.one b5 (.cells #[(.bool v.1), (S v.2)] 62 (0, 0))], [Hp.one b2 (.cells #[(.int .i64 no), (.int .i64 gsn), v_l] 36 (0, 0))], R] := hX113.of_all1
                  refine s_eff (o_storeN (vs := [(.int .i64 no), (.int .i64 g), v110]) (c' := #[(.int .i64 no), (.int .i64 g), v110]) ti36 rfl rfl rfl rfl (by intro u hu; simp only [List.mem_cons, List.not_mem_nil, or_false] at hu; rcases hu with rfl | rfl | rfl <;> first | rfl | exact ho112.one) (by simp) (by kernel_rfl) (hH114.front 1 rfl) fun w116 hH117 => ?_)
                  refine s_op (o_assign (v := (.int .i64 0)) rfl ?_)
                  refine s_nil ?_
                  refine t_norm (hK109 _ _ ?_)
                  refine wp_ret ?_
                  refine c_retC2 Tryz.results33 rfl (run_loadVarN (cs := [(.int .i64 no), (.int .i64 g), v110]) Tryz.underlying36 rfl ti36 hH117 (seg_sub 0 rfl) (CellsAt.one rfl)) (x := (.int .i64 0)) rfl ?_
                  have hv1_ : v.1 = true := by simpa using h73
                  have hgc_ : (getC l key).1 = false := by simpa using h99
                  rw [getC_has] at hgc_
                  have hE_ : setE no gsn l key v g = 0 := by rw [hok_]; simp [hv1_, hgc_, h100]; try omega
                  have q118 : (setNo no gsn l key v g) = no := by unfold setNo; rw [if_pos hE_]
                  have q119 : (setG no gsn l key v g) = g := by unfold setG; rw [if_pos hE_]
                  have q120 : (setL no gsn l key v g) = (putL key (v.1, v.2).2 (!(v.1, v.2).1) l) := by unfold setL; rw [if_pos hE_]; exact (put_eq hs (by first | exact .inl hv1_ | exact .inr hgc_)).symm
                  have q121 : (setE no gsn l key v g) = 0 := by exact hE_
                  have hH122 : Has E w116 [s111, R] := ((hH117.front 4 rfl).front 2 rfl).first 2 rfl
                  exact ⟨_, _, by rw [q118, q119]; rw [q121], (by rw [q120]; exact ho112), hH122⟩
              · -- not: !((getC l key).1)
                have h99_n : ((getC l key).1) = true := by first | simpa using h99 | exact Bool.of_not_eq_false (fun g_ => by rw [g_] at h99; cases h99)
                refine s_off (b' := false) 56 rfl (congrArg Value.bool h99) rfl ?_
                refine s_off (b' := false) 56 rfl (congrArg Value.bool h99) rfl ?_
                refine s_off (b' := false) 56 rfl (congrArg Value.bool h99) rfl ?_
                refine s_off (b' := false) 56 rfl (congrArg Value.bool h99) rfl ?_
                refine s_op (o_pick_f (u := (.bool false)) ((rfl : _ = _).trans (congrArg Value.bool h99)) rfl ?_)
                refine s_op (o_assign (v := (.bool false)) rfl ?_)
                refine s_nil ?_
                refine t_norm (hK98 _ _ ?_)
                refine c_false rfl rfl ?_
                refine wp_skip ?_
                refine b_norm ?_
                refine t_norm (hK15 _ _ ?_)
                refine wp_seq_k fun K123 hK123 => ?_
                refine c_region ?_
                refine s_op (o_loadN (cs := [(.int .i64 no), (.int .i64 gsn), v_l]) Tryz.underlying36 rfl ti36 rfl hH42 (seg_sub 2 rfl) (CellsAt.one rfl) ?_)
                refine s_op (o_move (v := (S key)) rfl ?_)
                refine s_op (o_loadN (cs := [(.bool v.1), (S v.2)]) Tryz.underlying62 rfl ti62 rfl hH42 (seg_sub 1 rfl) (CellsAt.one rfl) ?_)
                refine s_op (o_move (v := (.int .i64 g)) rfl ?_)
                refine s_op (o_callf (vs := #[(.agg #[(.int .i64 no), (.int .i64 gsn), v_l]), (S key), (.agg #[(.bool v.1), (S v.2)]), (.int .i64 g)]) ca75 rfl (args4 rfl rfl rfl rfl) (r11put_c (no := no) (gsn := gsn) (l := l) (key := key) (v := (v.1, v.2)) (g := g) hH42.all (h_l.mono (seg_sub 3 rfl)) (by first | omega | (simp only []; omega) | (simp; done) | (simp; omega))) ?_)
                rintro _ w129 ⟨v124, s125, rfl, ho126, hX127⟩
                refine ⟨_, rfl, ?_⟩
                have hH128 : Has E w129 [s125, [Hp.one b8 (.cells #[(.int .i64 0), (.int .i64 0), (.slice none 0 0)] 36 (0, 0))], [Hp.one b5 (.cells #[(.bool v.1), (S v.2)] 62 (0, 0))], [Hp.one b2 (.cells #[(.int .i64 no), (.int .i64 gsn), v_l] 36 (0, 0))], R] := hX127.of_all1
                refine s_eff (o_storeN (vs := [(.int .i64 no), (.int .i64 g), v124]) (c' := #[(.int .i64 no), (.int .i64 g), v124]) ti36 rfl rfl rfl rfl (by intro u hu; simp only [List.mem_cons, List.not_mem_nil, or_false] at hu; rcases hu with rfl | rfl | rfl <;> first | rfl | exact ho126.one) (by simp) (by kernel_rfl) (hH128.front 1 rfl) fun w130 hH131 => ?_)
                refine s_op (o_assign (v := (.int .i64 0)) rfl ?_)
                refine s_nil ?_
                refine t_norm (hK123 _ _ ?_)
                refine wp_ret ?_
                refine c_retC2 Tryz.results33 rfl (run_loadVarN (cs := [(.int .i64 no), (.int .i64 g), v124]) Tryz.underlying36 rfl ti36 hH131 (seg_sub 0 rfl) (CellsAt.one rfl)) (x := (.int .i64 0)) rfl ?_
                have hv1_ : v.1 = true := by simpa using h73
                have hgc_ : (getC l key).1 = true := by simpa using h99
                rw [getC_has] at hgc_
                have hE_ : setE no gsn l key v g = 0 := by rw [hok_]; simp [hv1_, hgc_]; try omega
                have q132 : (setNo no gsn l key v g) = no := by unfold setNo; rw [if_pos hE_]
                have q133 : (setG no gsn l key v g) = g := by unfold setG; rw [if_pos hE_]
                have q134 : (setL no gsn l key v g) = (putL key (v.1, v.2).2 (!(v.1, v.2).1) l) := by unfold setL; rw [if_pos hE_]; exact (put_eq hs (by first | exact .inl hv1_ | exact .inr hgc_)).symm
                have q135 : (setE no gsn l key v g) = 0 := by exact hE_
                have hH136 : Has E w130 [s125, R] := ((hH131.front 4 rfl).front 2 rfl).first 2 rfl
                exact ⟨_, _, by rw [q132, q133]; rw [q135], (by rw [q134]; exact ho126), hH136⟩
end Go.Q
namespace Go.Q
theorem Has.below {w w' : World} (H : Has w w' [[Hp.of w]]) : RowKit.Below w.heap.size w w' := by
  have hs : ∀ b o, w.heap[b]? = some o → w'.heap[b]? = some o := Has0.sub H (Hp.of w) (by simp)
  have hb : ∀ k, k < w.heap.size → w'.heap[k]? = w.heap[k]? := fun k hk => by
    rw [hs k w.heap[k] (Array.getElem?_eq_getElem hk), Array.getElem?_eq_getElem hk]
  refine ⟨H.os, H.tape, H.output, ?_, hb⟩
  rcases Nat.eq_zero_or_pos w.heap.size with h | h
  · omega
  · have h1 := hb (w.heap.size - 1) (by omega)
    rw [Array.getElem?_eq_getElem (show w.heap.size - 1 < w.heap.size by omega)] at h1
    have h2 := (Array.getElem?_eq_some_iff.1 h1).1
    omega
/-- cells that are read one by one, as a row -/
theorem cells_row {w : World} {x : Addr} {vs : List Value} (h0 : 0 < vs.length) (h : ∀ i v, vs[i]? = some v → w.cell? (x.add i) = some v) : ∃ b off, x = ⟨b, off, none⟩ ∧ CellsAt [Hp.of w] b off vs := by
  obtain ⟨b, off, spot⟩ := x
  have hc := h 0 vs[0] (List.getElem?_eq_getElem h0)
  simp only [Addr.add, if_true, World.cell?] at hc
  cases hb : w.heap[b]? with
  | none => rw [hb] at hc; cases hc
  | some o =>
    cases o with
    | cells c T f =>
      rw [hb] at hc
      simp only at hc
      cases spot with
      | some s => simp at hc
      | none =>
        refine ⟨b, off, rfl, Hp.of w, List.mem_singleton.2 rfl, c, T, f, hb, fun j v hv => ?_⟩
        have := h j v hv
        rw [add_lit] at this
        simpa [World.cell?, hb] using this
    | _ => rw [hb] at hc; simp at hc
end Go.Q
namespace Go.Q
end Go.Q
namespace Go.Q
open Go.Proofs Go.Shelf
def jl_ren : Go.Shelf.Ren := ⟨fun | 156 => 108 | 165 => 119 | 166 => 103 | 169 => 104 | 240 => 127 | 241 => 141 | 276 => 155 | 277 => 164 | n => n, fun | 31 => 102 | 9 => 9 | 3 => 3 | 4 => 4 | 0 => 0 | 20 => 20 | 72 => 145 | 76 => 148 | 70 => 143 | 37 => 54 | 75 => 147 | 127 => 172 | 164 => 195 | 5 => 5 | 80 => 104 | n => n, fun | n => n⟩
theorem jl : Go.Proofs.Lays.n156 Tryz.prog jl_ren := {
  mixed := by kernel_rfl
  f156 := Tryz.func108.trans (congrArg some (by kernel_rfl))
  f165 := Tryz.func119.trans (congrArg some (by kernel_rfl))
  f166 := Tryz.func103.trans (congrArg some (by kernel_rfl))
  f169 := Tryz.func104.trans (congrArg some (by kernel_rfl))
  f240 := Tryz.func127.trans (congrArg some (by kernel_rfl))
  f241 := Tryz.func141.trans (congrArg some (by kernel_rfl))
  f276 := Tryz.func155.trans (congrArg some (by kernel_rfl))
  f277 := Tryz.func164.trans (congrArg some (by kernel_rfl))
  t0 := Tryz.underlying0
  a0 := Tryz.isAgg0
  z0 := Tryz.sizeOf0
  v0 := Tryz.zeroValue0
  t3 := Tryz.underlying3
  a3 := Tryz.isAgg3
  z3 := Tryz.sizeOf3
  v3 := Tryz.zeroValue3
  t4 := Tryz.underlying4
  a4 := Tryz.isAgg4
  z4 := Tryz.sizeOf4
  v4 := Tryz.zeroValue4
  t9 := Tryz.underlying9
  a9 := Tryz.isAgg9
  z9 := Tryz.sizeOf9
  v9 := Tryz.zeroValue9
  t20 := Tryz.underlying20
  a20 := Tryz.isAgg20
  z20 := Tryz.sizeOf20
  v20 := Tryz.zeroValue20
  t31 := Tryz.underlying102
  a31 := Tryz.isAgg102
  z31 := Tryz.sizeOf102
  v31 := Tryz.zeroValue102
  t37 := Tryz.underlying54
  a37 := Tryz.isAgg54
  z37 := Tryz.sizeOf54
  v37 := Tryz.zeroValue54
  t70 := Tryz.underlying143
  a70 := Tryz.isAgg143
  z70 := Tryz.sizeOf143
  v70 := Tryz.zeroValue143
  t72 := Tryz.underlying145
  a72 := Tryz.isAgg145
  z72 := Tryz.sizeOf145
  v72 := Tryz.zeroValue145
  t75 := Tryz.underlying147
  a75 := Tryz.isAgg147
  z75 := Tryz.sizeOf147
  v75 := Tryz.zeroValue147
  t76 := Tryz.underlying148
  a76 := Tryz.isAgg148
  z76 := Tryz.sizeOf148
  v76 := Tryz.zeroValue148
  t127 := Tryz.underlying172
  a127 := Tryz.isAgg172
  z127 := Tryz.sizeOf172
  v127 := Tryz.zeroValue172
  t164 := Tryz.underlying195
  a164 := Tryz.isAgg195
  z164 := Tryz.sizeOf195
  v164 := Tryz.zeroValue195 }
def rpl_ren : Go.Shelf.Ren := ⟨fun | 105 => 95 | 212 => 94 | 99 => 118 | 165 => 119 | 166 => 103 | 170 => 120 | 169 => 104 | 263 => 116 | 264 => 117 | 206 => 140 | 240 => 127 | 241 => 141 | 276 => 155 | 277 => 164 | n => n, fun | 9 => 9 | 3 => 3 | 4 => 4 | 20 => 20 | 0 => 0 | 46 => 52 | 109 => 139 | 5 => 5 | 72 => 145 | 76 => 148 | 51 => 160 | 146 => 161 | 53 => 163 | 148 => 164 | 70 => 143 | 37 => 54 | 75 => 147 | 127 => 172 | 164 => 195 | 80 => 104 | n => n, fun | n => n⟩
theorem rpl : Go.Proofs.Lays.n105 Tryz.prog rpl_ren := {
  mixed := by kernel_rfl
  f99 := Tryz.func118.trans (congrArg some (by kernel_rfl))
  f105 := Tryz.func95.trans (congrArg some (by kernel_rfl))
  f165 := Tryz.func119.trans (congrArg some (by kernel_rfl))
  f166 := Tryz.func103.trans (congrArg some (by kernel_rfl))
  f169 := Tryz.func104.trans (congrArg some (by kernel_rfl))
  f170 := Tryz.func120.trans (congrArg some (by kernel_rfl))
  f206 := Tryz.func140.trans (congrArg some (by kernel_rfl))
  f212 := Tryz.func94.trans (congrArg some (by kernel_rfl))
  f240 := Tryz.func127.trans (congrArg some (by kernel_rfl))
  f241 := Tryz.func141.trans (congrArg some (by kernel_rfl))
  f263 := Tryz.func116.trans (congrArg some (by kernel_rfl))
  f264 := Tryz.func117.trans (congrArg some (by kernel_rfl))
  f276 := Tryz.func155.trans (congrArg some (by kernel_rfl))
  f277 := Tryz.func164.trans (congrArg some (by kernel_rfl))
  t0 := Tryz.underlying0
  a0 := Tryz.isAgg0
  z0 := Tryz.sizeOf0
  v0 := Tryz.zeroValue0
  t3 := Tryz.underlying3
  a3 := Tryz.isAgg3
  z3 := Tryz.sizeOf3
  v3 := Tryz.zeroValue3
  t4 := Tryz.underlying4
  a4 := Tryz.isAgg4
  z4 := Tryz.sizeOf4
  v4 := Tryz.zeroValue4
  t5 := Tryz.underlying5
  a5 := Tryz.isAgg5
  z5 := Tryz.sizeOf5
  v5 := Tryz.zeroValue5
  t9 := Tryz.underlying9
  a9 := Tryz.isAgg9
  z9 := Tryz.sizeOf9
  v9 := Tryz.zeroValue9
  t20 := Tryz.underlying20
  a20 := Tryz.isAgg20
  z20 := Tryz.sizeOf20
  v20 := Tryz.zeroValue20
  t37 := Tryz.underlying54
  a37 := Tryz.isAgg54
  z37 := Tryz.sizeOf54
  v37 := Tryz.zeroValue54
  t46 := Tryz.underlying52
  a46 := Tryz.isAgg52
  z46 := Tryz.sizeOf52
  v46 := Tryz.zeroValue52
  t51 := Tryz.underlying160
  a51 := Tryz.isAgg160
  z51 := Tryz.sizeOf160
  v51 := Tryz.zeroValue160
  t53 := Tryz.underlying163
  a53 := Tryz.isAgg163
  z53 := Tryz.sizeOf163
  v53 := Tryz.zeroValue163
  t70 := Tryz.underlying143
  a70 := Tryz.isAgg143
  z70 := Tryz.sizeOf143
  v70 := Tryz.zeroValue143
  t72 := Tryz.underlying145
  a72 := Tryz.isAgg145
  z72 := Tryz.sizeOf145
  v72 := Tryz.zeroValue145
  t75 := Tryz.underlying147
  a75 := Tryz.isAgg147
  z75 := Tryz.sizeOf147
  v75 := Tryz.zeroValue147
  t76 := Tryz.underlying148
  a76 := Tryz.isAgg148
  z76 := Tryz.sizeOf148
  v76 := Tryz.zeroValue148
  t109 := Tryz.underlying139
  a109 := Tryz.isAgg139
  z109 := Tryz.sizeOf139
  v109 := Tryz.zeroValue139
  t127 := Tryz.underlying172
  a127 := Tryz.isAgg172
  z127 := Tryz.sizeOf172
  v127 := Tryz.zeroValue172
  t146 := Tryz.underlying161
  a146 := Tryz.isAgg161
  z146 := Tryz.sizeOf161
  v146 := Tryz.zeroValue161
  t148 := Tryz.underlying164
  a148 := Tryz.isAgg164
  z148 := Tryz.sizeOf164
  v148 := Tryz.zeroValue164
  t164 := Tryz.underlying195
  a164 := Tryz.isAgg195
  z164 := Tryz.sizeOf195
  v164 := Tryz.zeroValue195 }
def mul_ren : Go.Shelf.Ren := ⟨fun | 212 => 94 | 263 => 116 | 264 => 117 | n => n, fun | 46 => 52 | 51 => 160 | 146 => 161 | 53 => 163 | 148 => 164 | n => n, fun | n => n⟩
theorem mul : Go.Proofs.Lays.n212 Tryz.prog mul_ren := {
  mixed := by kernel_rfl
  f212 := Tryz.func94.trans (congrArg some (by kernel_rfl))
  f263 := Tryz.func116.trans (congrArg some (by kernel_rfl))
  f264 := Tryz.func117.trans (congrArg some (by kernel_rfl))
  t46 := Tryz.underlying52
  a46 := Tryz.isAgg52
  z46 := Tryz.sizeOf52
  v46 := Tryz.zeroValue52
  t51 := Tryz.underlying160
  a51 := Tryz.isAgg160
  z51 := Tryz.sizeOf160
  v51 := Tryz.zeroValue160
  t53 := Tryz.underlying163
  a53 := Tryz.isAgg163
  z53 := Tryz.sizeOf163
  v53 := Tryz.zeroValue163
  t146 := Tryz.underlying161
  a146 := Tryz.isAgg161
  z146 := Tryz.sizeOf161
  v146 := Tryz.zeroValue161
  t148 := Tryz.underlying164
  a148 := Tryz.isAgg164
  z148 := Tryz.sizeOf164
  v148 := Tryz.zeroValue164 }
theorem jl_extra : Builder.Extra Tryz.prog jl_ren := {
  sizeBuilder := by kernel_rfl
  liesBuilder := by kernel_rfl
  t5 := Tryz.underlying5
  a5 := Tryz.isAgg5
  z5 := Tryz.sizeOf5
  v5 := Tryz.zeroValue5
  infoByte := by kernel_rfl
  cellsByte := by kernel_rfl
  sizeByte := by kernel_rfl
  neB5 := by decide }
theorem Has.of_below {E w w' : World} {ss : List (List Hp)} (H : Has E w ss) (hb : Go.RowKit.Below w.heap.size w w') : Has E w' ss :=
  ⟨hb.os.trans H.os, hb.tape.trans H.tape, hb.output.trans H.output, H.dj, fun h hh b o ho => by
    have h1 := Has0.sub H h hh b o ho
    rw [hb.block b (Array.getElem?_eq_some_iff.1 h1).1]; exact h1⟩
theorem join_flat : ∀ l : List (List UInt8), Lib.join l [] = l.flatten
  | [] => rfl
  | [x] => by rw [Lib.join_one]; simp
  | x :: y :: r => by
    have h := join_flat (y :: r)
    unfold Lib.join List.intercalate at *
    rw [List.intersperse_cons_cons, List.flatten_cons, List.flatten_cons, h, List.nil_append]; rfl
theorem join_c {E w : World} {R : List Hp} (hH : Has E w [R]) {v : Value} {l : List (List UInt8)} (hv : Sl R 1 v l.length (l.map S)) (hn : l.length ≤ 1000000) (hl : l.flatten.length ≤ 1000000000) :
    Calls Tryz.prog 108 #[v, S []] w fun e w' => e = .returned (S l.flatten) ∧ Has E w' [R] := by
  obtain ⟨p, cap, rfl, h1, h2, h3, h4⟩ := hv
  rcases Nat.eq_zero_or_pos l.length with h0 | h0
  · obtain rfl := List.eq_nil_of_length_eq_zero h0
    exact (Any.strings_Join_none jl jl_extra p cap ⟨#[]⟩ w).mono fun e w' ⟨he, hw⟩ => ⟨he, by rw [hw]; exact hH⟩
  · obtain ⟨b, off, rfl, hc⟩ := h4 h0
    have hcell : ∀ (j : Nat) x, (l.map (fun a => (⟨a.toArray⟩ : ByteArray)))[j]? = some x → w.cell? ⟨b, off + j, none⟩ = some (.string x) := fun j x hx => by
      rw [List.getElem?_map, Option.map_eq_some_iff] at hx
      obtain ⟨a, ha, rfl⟩ := hx
      exact hH.cell (L := R) (by simp) hc (v := S a) (by rw [List.getElem?_map, ha]; rfl)
    have hb : b < w.heap.size := by
      obtain ⟨x, hx⟩ : ∃ x, l[0]? = some x := ⟨l[0], List.getElem?_eq_getElem h0⟩
      have := hcell 0 ⟨x.toArray⟩ (by rw [List.getElem?_map, hx]; rfl)
      unfold World.cell? at this
      cases hw : w.heap[b]? with
      | none => rw [hw] at this; cases this
      | some o => exact (Array.getElem?_eq_some_iff.1 hw).1
    have e1 : (l.map (fun a => (⟨a.toArray⟩ : ByteArray))).map (·.data.toList) = l := by rw [List.map_map]; simp [Function.comp_def]
    have hj : Lib.join ((l.map (fun a => (⟨a.toArray⟩ : ByteArray))).map (·.data.toList)) ((⟨#[]⟩ : ByteArray).data.toList) = l.flatten := by rw [e1]; exact join_flat l
    have hs := Any.strings_Join jl jl_extra b off cap (l.map (fun a => (⟨a.toArray⟩ : ByteArray))) ⟨#[]⟩ w hcell hb (by rw [List.length_map]; omega) (by rw [List.length_map]; exact h1) (by rw [hj]; omega)
    rw [hj, List.length_map] at hs
    exact hs.mono fun e w' ⟨he, hb⟩ => ⟨he, hH.of_below hb⟩
theorem rpl_extra : Builder.Extra Tryz.prog rpl_ren := {
  sizeBuilder := by kernel_rfl
  liesBuilder := by kernel_rfl
  t5 := Tryz.underlying5
  a5 := Tryz.isAgg5
  z5 := Tryz.sizeOf5
  v5 := Tryz.zeroValue5
  infoByte := by kernel_rfl
  cellsByte := by kernel_rfl
  sizeByte := by kernel_rfl
  neB5 := by decide }
theorem repeat_c {E w : World} {R : List Hp} (hH : Has E w [R]) (n : Nat) (hn : n ≤ 1000000) : Calls Tryz.prog 95 #[S [0], .int .i64 (n : Int)] w fun e w' => e = .returned (S (List.replicate n 0)) ∧ Has E w' [R] := by
  have h := Any.strings_Repeat rpl rpl_extra ⟨#[0]⟩ n w (by omega) (by show 1 * n ≤ _; omega)
  refine h.mono fun e w' ⟨he, hb⟩ => ⟨?_, hH.of_below hb⟩
  rw [he]
  have : ∀ n, Lib.repeatL [(0 : UInt8)] n = List.replicate n 0 := fun n => by
    induction n with
    | zero => rfl
    | succ n ih => simp [Lib.repeatL, List.replicate_succ] at *; try exact ih
  exact congrArg (fun l => Ending.returned (Value.string ⟨l.toArray⟩)) (this n)
theorem mul_c {E w : World} {R : List Hp} (hH : Has E w [R]) (x y : Nat) (h : x * y < 18446744073709551616) (hx : x < 18446744073709551616) (hy : y < 18446744073709551616) : Calls Tryz.prog 94 #[.int .u64 x, .int .u64 y] w fun e w' => e = .returned (.tuple #[.int .u64 0, .int .u64 ((x * y : Nat) : Int)]) ∧ Has E w' [R] := by
  refine (Any.bits_Mul mul x y hx hy w).mono fun e w' ⟨he, hw⟩ => ⟨?_, hw ▸ hH⟩
  rw [he, Nat.div_eq_of_lt h, Nat.mod_eq_of_lt h]; rfl
end Go.Q
namespace Go.Q
open Go.Proofs
set_option linter.unusedVariables false
set_option maxRecDepth 100000
attribute [local irreducible] wpList OK Code.wp
set_option maxHeartbeats 4000000 in
theorem use_c {E w : World} {R : List Hp} {pb : Nat} {p : Pw} (hH : Has E w [[Hp.one pb (.cells #[(.bool p.off), (.bool p.armed), (.int .i64 p.left), (.int .i64 p.uses)] 101 (0, 0))], R]) (hp : PwOk p) :
    Calls Tryz.prog 67 #[(.pointer (some ⟨pb, 0, none⟩))] w fun e w' => e = .returned (.bool (useB p)) ∧ Has E w' [[Hp.one pb (.cells #[(.bool (useS p).off), (.bool (useS p).armed), (.int .i64 (useS p).left), (.int .i64 (useS p).uses)] 101 (0, 0))], R] := by
  obtain ⟨hu1, hu2, hu3, hu4⟩ := hp
  refine c_enter (args := [(.pointer (some ⟨pb, 0, none⟩))]) Tryz.func67 rfl Tryz.ntmps67 (by simp) ?_
  refine wp_seq_k fun K1 hK1 => ?_
  refine c_region ?_
  refine s_op (o_assign (v := (.bool false)) rfl ?_)
  refine s_nil ?_
  refine t_norm (hK1 _ _ ?_)
  refine wp_seq_k fun K2 hK2 => ?_
  refine wp_seq_k fun K3 hK3 => ?_
  refine c_region ?_
  refine s_op (o_move (v := (.pointer (some ⟨pb, 0, none⟩))) rfl ?_)
  refine s_op (o_nilCheck rfl ?_)
  refine s_op (o_fieldAddr (k := 0) (fun _ => by kernel_rfl) rfl ?_)
  refine s_op (o_load1 (v := (.bool p.off)) Tryz.underlying4 rfl rfl hH (seg_sub 0 rfl) (CellsAt.one rfl) ?_)
  refine s_nil ?_
  refine t_norm (hK3 _ _ ?_)
  refine c_condb rfl (fun h4 => ?_) (fun h4 => ?_)
  · -- p.off
    refine wp_seq_k fun K5 hK5 => ?_
    refine c_region ?_
    refine s_op (o_assign (v := (.bool false)) rfl ?_)
    refine s_nil ?_
    refine t_norm (hK5 _ _ ?_)
    refine wp_ret ?_
    refine t_ret (c_ret1 Tryz.results67  (v := (.bool false)) rfl ?_)
    have e_ : useS p = p := by simp [useS, h4]
    exact ⟨by simp [useB, h4], by rw [e_]; exact hH⟩
  · -- not: p.off
    refine wp_skip ?_
    refine t_norm (hK2 _ _ ?_)
    refine wp_seq_k fun K6 hK6 => ?_
    refine c_region ?_
    refine s_op (o_move (v := (.pointer (some ⟨pb, 0, none⟩))) rfl ?_)
    refine s_op (o_nilCheck rfl ?_)
    refine s_op (o_fieldAddr (k := 3) (fun _ => by kernel_rfl) rfl ?_)
    refine s_op (o_load1 (v := (.int .i64 p.uses)) Tryz.underlying3 rfl rfl hH (seg_sub 0 rfl) (CellsAt.one rfl) ?_)
    refine s_op (o_add (a := p.uses) (b := 1) rfl rfl (w64 (by omega) (by omega)) ?_)
    refine s_op (o_nilCheck rfl ?_)
    refine s_op (o_fieldAddr (k := 3) (fun _ => by kernel_rfl) rfl ?_)
    refine s_eff (o_store1 (c' := #[(.bool p.off), (.bool p.armed), (.int .i64 p.left), (.int .i64 (p.uses + 1))]) ti3 rfl rfl rfl (by simp) rfl (hH.front 0 rfl) fun w7 hH8 => ?_)
    refine s_nil ?_
    refine t_norm (hK6 _ _ ?_)
    refine wp_seq_k fun K9 hK9 => ?_
    refine c_region ?_
    refine s_op (o_move (v := (.pointer (some ⟨pb, 0, none⟩))) rfl ?_)
    refine s_op (o_move (v := (.pointer (some ⟨pb, 0, none⟩))) rfl ?_)
    refine s_op (o_nilCheck rfl ?_)
    refine s_op (o_fieldAddr (k := 1) (fun _ => by kernel_rfl) rfl ?_)
    refine s_op (o_load1 (v := (.bool p.armed)) Tryz.underlying4 rfl rfl hH8 (seg_sub 0 rfl) (CellsAt.one rfl) ?_)
    refine s_op (o_move (v := (.bool p.armed)) rfl ?_)
    rcases Bool.eq_false_or_eq_true p.armed with h10 | h10
    · -- p.armed
      refine s_on 19 rfl (congrArg Value.bool h10) (o_move (v := (.pointer (some ⟨pb, 0, none⟩))) rfl ?_)
      refine s_on 19 rfl (congrArg Value.bool h10) (o_nilCheck rfl ?_)
      refine s_on 19 rfl (congrArg Value.bool h10) (o_fieldAddr (k := 2) (fun _ => by kernel_rfl) rfl ?_)
      refine s_on 19 rfl (congrArg Value.bool h10) (o_load1 (v := (.int .i64 p.left)) Tryz.underlying3 rfl rfl hH8 (seg_sub 0 rfl) (CellsAt.one rfl) ?_)
      refine s_on 19 rfl (congrArg Value.bool h10) (o_eql (a := p.left) (b := 0) rfl rfl ?_)
      refine s_op (o_pick_t (u := (.bool (decide (p.left = 0)))) ((rfl : _ = _).trans (congrArg Value.bool h10)) rfl ?_)
      refine s_op (o_nilCheck rfl ?_)
      refine s_op (o_fieldAddr (k := 0) (fun _ => by kernel_rfl) rfl ?_)
      refine s_eff (o_store1 (c' := #[(.bool (decide (p.left = 0))), (.bool p.armed), (.int .i64 p.left), (.int .i64 (p.uses + 1))]) ti4 rfl rfl rfl (by simp) rfl (hH8.front 0 rfl) fun w11 hH12 => ?_)
      refine s_nil ?_
      refine t_norm (hK9 _ _ ?_)
      refine wp_seq_k fun K13 hK13 => ?_
      refine c_region ?_
      refine s_op (o_move (v := (.pointer (some ⟨pb, 0, none⟩))) rfl ?_)
      refine s_op (o_nilCheck rfl ?_)
      refine s_op (o_fieldAddr (k := 2) (fun _ => by kernel_rfl) rfl ?_)
      refine s_op (o_load1 (v := (.int .i64 p.left)) Tryz.underlying3 rfl rfl hH12 (seg_sub 0 rfl) (CellsAt.one rfl) ?_)
      refine s_op (o_sub (a := p.left) (b := 1) rfl rfl (w64 (by omega) (by omega)) ?_)
      refine s_op (o_nilCheck rfl ?_)
      refine s_op (o_fieldAddr (k := 2) (fun _ => by kernel_rfl) rfl ?_)
      refine s_eff (o_store1 (c' := #[(.bool (decide (p.left = 0))), (.bool p.armed), (.int .i64 (p.left - 1)), (.int .i64 (p.uses + 1))]) ti3 rfl rfl rfl (by simp) rfl (hH12.front 0 rfl) fun w14 hH15 => ?_)
      refine s_nil ?_
      refine t_norm (hK13 _ _ ?_)
      refine wp_seq_k fun K16 hK16 => ?_
      refine c_region ?_
      refine s_op (o_move (v := (.pointer (some ⟨pb, 0, none⟩))) rfl ?_)
      refine s_op (o_nilCheck rfl ?_)
      refine s_op (o_fieldAddr (k := 0) (fun _ => by kernel_rfl) rfl ?_)
      refine s_op (o_load1 (v := (.bool (decide (p.left = 0)))) Tryz.underlying4 rfl rfl hH15 (seg_sub 0 rfl) (CellsAt.one rfl) ?_)
      refine s_op (o_not2 (b := decide (p.left = 0)) (b' := decide (¬ (p.left = 0))) rfl not_dec ?_)
      refine s_op (o_assign (v := (.bool (decide (¬ (p.left = 0))))) rfl ?_)
      refine s_nil ?_
      refine t_norm (hK16 _ _ ?_)
      refine wp_ret ?_
      refine c_ret1 Tryz.results67  (v := (.bool (decide (¬ (p.left = 0))))) rfl ?_
      have e_ : useS p = ⟨decide (p.left = 0), p.armed, p.left - 1, p.uses + 1⟩ := by simp [useS, h4, h10]
      exact ⟨by simp [useB, e_, h4, h10], by rw [e_]; exact hH15⟩
    · -- not: p.armed
      refine s_off (b' := false) 19 rfl (congrArg Value.bool h10) rfl ?_
      refine s_off (b' := false) 19 rfl (congrArg Value.bool h10) rfl ?_
      refine s_off (b' := false) 19 rfl (congrArg Value.bool h10) rfl ?_
      refine s_off (b' := false) 19 rfl (congrArg Value.bool h10) rfl ?_
      refine s_off (b' := false) 19 rfl (congrArg Value.bool h10) rfl ?_
      refine s_op (o_pick_f (u := (.bool false)) ((rfl : _ = _).trans (congrArg Value.bool h10)) rfl ?_)
      refine s_op (o_nilCheck rfl ?_)
      refine s_op (o_fieldAddr (k := 0) (fun _ => by kernel_rfl) rfl ?_)
      refine s_eff (o_store1 (c' := #[(.bool false), (.bool p.armed), (.int .i64 p.left), (.int .i64 (p.uses + 1))]) ti4 rfl rfl rfl (by simp) rfl (hH8.front 0 rfl) fun w17 hH18 => ?_)
      refine s_nil ?_
      refine t_norm (hK9 _ _ ?_)
      refine wp_seq_k fun K19 hK19 => ?_
      refine c_region ?_
      refine s_op (o_move (v := (.pointer (some ⟨pb, 0, none⟩))) rfl ?_)
      refine s_op (o_nilCheck rfl ?_)
      refine s_op (o_fieldAddr (k := 2) (fun _ => by kernel_rfl) rfl ?_)
      refine s_op (o_load1 (v := (.int .i64 p.left)) Tryz.underlying3 rfl rfl hH18 (seg_sub 0 rfl) (CellsAt.one rfl) ?_)
      refine s_op (o_sub (a := p.left) (b := 1) rfl rfl (w64 (by omega) (by omega)) ?_)
      refine s_op (o_nilCheck rfl ?_)
      refine s_op (o_fieldAddr (k := 2) (fun _ => by kernel_rfl) rfl ?_)
      refine s_eff (o_store1 (c' := #[(.bool false), (.bool p.armed), (.int .i64 (p.left - 1)), (.int .i64 (p.uses + 1))]) ti3 rfl rfl rfl (by simp) rfl (hH18.front 0 rfl) fun w20 hH21 => ?_)
      refine s_nil ?_
      refine t_norm (hK19 _ _ ?_)
      refine wp_seq_k fun K22 hK22 => ?_
      refine c_region ?_
      refine s_op (o_move (v := (.pointer (some ⟨pb, 0, none⟩))) rfl ?_)
      refine s_op (o_nilCheck rfl ?_)
      refine s_op (o_fieldAddr (k := 0) (fun _ => by kernel_rfl) rfl ?_)
      refine s_op (o_load1 (v := (.bool false)) Tryz.underlying4 rfl rfl hH21 (seg_sub 0 rfl) (CellsAt.one rfl) ?_)
      refine s_op (o_not rfl ?_)
      refine s_op (o_assign (v := (.bool true)) rfl ?_)
      refine s_nil ?_
      refine t_norm (hK22 _ _ ?_)
      refine wp_ret ?_
      refine c_ret1 Tryz.results67  (v := (.bool true)) rfl ?_
      have e_ : useS p = ⟨false, p.armed, p.left - 1, p.uses + 1⟩ := by simp [useS, h4, h10]
      exact ⟨by simp [useB, e_, h4, h10], by rw [e_]; exact hH21⟩
set_option maxHeartbeats 4000000 in
theorem pon_c {E w : World} {R : List Hp} {pb : Nat} {p : Pw} (hH : Has E w [[Hp.one pb (.cells #[(.bool p.off), (.bool p.armed), (.int .i64 p.left), (.int .i64 p.uses)] 101 (0, 0))], R]) :
    Calls Tryz.prog 111 #[(.pointer (some ⟨pb, 0, none⟩))] w fun e w' => e = .returned (.bool (!p.off)) ∧ Has E w' [[Hp.one pb (.cells #[(.bool p.off), (.bool p.armed), (.int .i64 p.left), (.int .i64 p.uses)] 101 (0, 0))], R] := by
  refine c_enter (args := [(.pointer (some ⟨pb, 0, none⟩))]) Tryz.func111 rfl Tryz.ntmps111 (by simp) ?_
  refine wp_seq_k fun K1 hK1 => ?_
  refine c_region ?_
  refine s_op (o_assign (v := (.bool false)) rfl ?_)
  refine s_nil ?_
  refine t_norm (hK1 _ _ ?_)
  refine wp_seq_k fun K2 hK2 => ?_
  refine c_region ?_
  refine s_op (o_move (v := (.pointer (some ⟨pb, 0, none⟩))) rfl ?_)
  refine s_op (o_pnnil (p := some _) Tryz.underlying99 rfl rfl ?_)
  refine s_op (o_move (v := (.bool true)) rfl ?_)
  refine s_on 5 rfl rfl (o_move (v := (.pointer (some ⟨pb, 0, none⟩))) rfl ?_)
  refine s_on 5 rfl rfl (o_nilCheck rfl ?_)
  refine s_on 5 rfl rfl (o_fieldAddr (k := 0) (fun _ => by kernel_rfl) rfl ?_)
  refine s_on 5 rfl rfl (o_load1 (v := (.bool p.off)) Tryz.underlying4 rfl rfl hH (seg_sub 0 rfl) (CellsAt.one rfl) ?_)
  refine s_on 5 rfl rfl (o_not rfl ?_)
  refine s_op (o_pick_t (u := (.bool (!p.off))) rfl rfl ?_)
  refine s_op (o_assign (v := (.bool (!p.off))) rfl ?_)
  refine s_nil ?_
  refine t_norm (hK2 _ _ ?_)
  refine wp_ret ?_
  refine c_ret1 Tryz.results111  (v := (.bool (!p.off))) rfl ?_
  exact ⟨rfl, hH⟩
end Go.Q
namespace Go.Q
open Go.Proofs
set_option linter.unusedVariables false
set_option maxRecDepth 100000
attribute [local irreducible] wpList OK Code.wp
set_option maxHeartbeats 4000000 in
theorem blank_c {E w : World} {R : List Hp} (hH : Has E w [R]) :
    Calls Tryz.prog 54 #[] w fun e w' => e = .returned (S blankS) ∧ Has E w' [R] := by
  refine c_enter (args := []) Tryz.func54 rfl Tryz.ntmps54 (by simp) ?_
  refine wp_seq_k fun K1 hK1 => ?_
  refine c_region ?_
  refine s_op (o_assign (v := (S ([] : List UInt8))) rfl ?_)
  refine s_nil ?_
  refine t_norm (hK1 _ _ ?_)
  refine wp_seq_k fun K2 hK2 => ?_
  refine c_region ?_
  refine s_op (o_callf (vs := #[(S [0]), (.int .i64 64)]) ca95 rfl (args2 rfl rfl) (repeat_c hH.all 64 (by decide)) ?_)
  rintro _ w5 ⟨rfl, hX3⟩
  refine ⟨_, rfl, ?_⟩
  have hH4 := hX3.of_all
  refine s_op (o_assign (v := (S blankS)) rfl ?_)
  refine s_nil ?_
  refine t_norm (hK2 _ _ ?_)
  refine wp_ret ?_
  refine c_ret1 Tryz.results54  (v := (S blankS)) rfl ?_
  exact ⟨rfl, hH4⟩
set_option maxHeartbeats 4000000 in
theorem filled_c {E w : World} {R : List Hp} (hH : Has E w [R]) {v : Value} {l : List Bs} (hv : Sl R 1 v l.length (l.map sV)) (hn : l.length ≤ 1000000) (hl : l.flatten.length ≤ 1000000000) :
    Calls Tryz.prog 68 #[v] w fun e w' => e = .returned (.tuple #[S (if l.flatten.length ≤ 64 then fillS l.flatten else []), .bool (decide (l.flatten.length ≤ 64))]) ∧ Has E w' [R] := by
  have hn_ := hv.le
  have hb64 := blank_len
  refine c_enter (args := [v]) Tryz.func68 rfl Tryz.ntmps68 (by simp) ?_
  refine wp_seq_k fun K1 hK1 => ?_
  refine c_region ?_
  refine s_op (o_assign (v := (S ([] : List UInt8))) rfl ?_)
  refine s_op (o_assign (v := (.bool false)) rfl ?_)
  refine s_nil ?_
  refine t_norm (hK1 _ _ ?_)
  refine wp_seq_k fun K2 hK2 => ?_
  refine c_region ?_
  refine s_op (o_move (v := v) rfl ?_)
  refine s_op (o_callf (vs := #[v, (S ([] : List UInt8))]) ca108 rfl (args2 rfl rfl) (join_c hH.all (l := l) (hv.mono (seg_sub 0 rfl)) (by omega) (by omega)) ?_)
  rintro _ w5 ⟨rfl, hX3⟩
  refine ⟨_, rfl, ?_⟩
  have hH4 := hX3.of_all
  refine s_op (o_assign (v := (S l.flatten)) rfl ?_)
  refine s_nil ?_
  refine t_norm (hK2 _ _ ?_)
  refine wp_seq_k fun K6 hK6 => ?_
  refine wp_seq_k fun K7 hK7 => ?_
  refine c_region ?_
  refine s_op (o_move (v := (S l.flatten)) rfl ?_)
  refine s_op (o_slen Tryz.underlying9 rfl ?_)
  refine s_op (o_gtr (a := (l.flatten.length : Int)) (b := 64) rfl rfl ?_)
  refine s_nil ?_
  refine t_norm (hK7 _ _ ?_)
  refine c_cond rfl (fun h8 => ?_) (fun h8 => ?_)
  · -- 64 < (l.flatten.length : Int)
    refine wp_seq_k fun K9 hK9 => ?_
    refine c_region ?_
    refine s_op (o_assign (v := (S ([] : List UInt8))) rfl ?_)
    refine s_op (o_assign (v := (.bool false)) rfl ?_)
    refine s_nil ?_
    refine t_norm (hK9 _ _ ?_)
    refine wp_ret ?_
    refine t_ret (c_ret2 Tryz.results68  (v := (S ([] : List UInt8))) rfl (x := (.bool false)) rfl ?_)
    exact ⟨by rw [if_neg (by omega), decide_eq_false (by omega)], hH4⟩
  · -- not: 64 < (l.flatten.length : Int)
    refine wp_skip ?_
    refine t_norm (hK6 _ _ ?_)
    refine wp_seq_k fun K10 hK10 => ?_
    refine c_region ?_
    refine s_op (o_move (v := (S l.flatten)) rfl ?_)
    refine s_op (o_callf (vs := #[]) ca54 rfl (args0) (blank_c hH4.all) ?_)
    rintro _ w13 ⟨rfl, hX11⟩
    refine ⟨_, rfl, ?_⟩
    have hH12 := hX11.of_all
    refine s_op (o_move (v := (S l.flatten)) rfl ?_)
    refine s_op (o_slen Tryz.underlying9 rfl ?_)
    refine s_op (o_ssl_l Tryz.underlying9 rfl rfl (by omega) (by first | omega | (rw [blank_len]; omega)) ?_)
    refine s_op (o_sadd rfl rfl (by rw [List.length_drop, blank_len]; omega) ?_)
    refine s_op (o_assign (v := (S (l.flatten ++ (blankS.drop ((l.flatten.length : Int)).toNat)))) rfl ?_)
    refine s_op (o_assign (v := (.bool true)) rfl ?_)
    refine s_nil ?_
    refine t_norm (hK10 _ _ ?_)
    refine wp_ret ?_
    refine c_ret2 Tryz.results68  (v := (S (l.flatten ++ (blankS.drop ((l.flatten.length : Int)).toNat)))) rfl (x := (.bool true)) rfl ?_
    exact ⟨by rw [if_pos (by omega), decide_eq_true (by omega)]; rfl, hH12⟩
end Go.Q
namespace Go.Q
open Go.Proofs
set_option linter.unusedVariables false
set_option maxRecDepth 100000
attribute [local irreducible] wpList OK Code.wp
theorem own_raw {e : TypeId} {n : Nat} {v : Value} {cs : List Value} {hs : List Hp} (h : Own e 1 v n cs hs) (hn : 0 < n) : ∃ b cap cur, v = .slice (some ⟨b, 0, none⟩) n cap ∧ hs = [Hp.one b (.cells cur e (0, 0))] ∧ n ≤ cap ∧ cap ≤ maxLen ∧ cur.size = cap := by
  obtain ⟨_, ⟨_, h, _⟩ | ⟨b, cap, cur, h1, h2, h3, h4, h5, _⟩⟩ := h
  · omega
  · exact ⟨b, cap, cur, h1, h2, h3, h4, by omega⟩
theorem rep_step {c c' : Array Value} {k N : Nat} {x : Value} (hk : 1 ≤ k) (hN : k ≤ N) (hs : N ≤ c.size) (h : c.toList.take k = List.replicate k x) (q : c'.toList = if 0 < min k (N - k) then c.toList.take (0 + k) ++ ((c.toList.drop 0).take (k * 1)).take (min k (N - k) * 1) ++ c.toList.drop (0 + k + min k (N - k) * 1) else c.toList) :
    c'.toList.take (k + min k (N - k)) = List.replicate (k + min k (N - k)) x := by
  by_cases g : 0 < min k (N - k)
  · rw [if_pos g, Nat.zero_add, List.drop_zero, Nat.mul_one, Nat.mul_one, h, List.take_replicate, List.replicate_append_replicate] at q
    rw [q, List.take_append_of_le_length (by rw [List.length_replicate]; omega), List.take_replicate]
    congr 1; omega
  · rw [if_neg g] at q
    have : min k (N - k) = 0 := by omega
    rw [q, this, Nat.add_zero]; exact h
theorem rep_step2 {c c' : Array Value} {k N o n so m : Nat} {x : Value} (hk : 1 ≤ k) (hN : k ≤ N) (hs : N ≤ c.size) (h : c.toList.take k = List.replicate k x)
    (q : c'.toList = if 0 < min m n then c.toList.take o ++ ((c.toList.drop so).take (m * 1)).take (min m n * 1) ++ c.toList.drop (o + min m n * 1) else c.toList) (hn : n = N - k) (hm : m = k) (hso : so = 0) (ho : 0 < n → o = k) :
    c'.toList.take (k + min k (N - k)) = List.replicate (k + min k (N - k)) x := by
  subst hn hm hso
  refine rep_step hk hN hs h ?_
  rw [q]
  by_cases g : 0 < min m (N - m)
  · rw [if_pos g, if_pos g, ho (by omega), Nat.zero_add]
  · rw [if_neg g, if_neg g]
theorem rep_one {c : Array Value} {k so m : Nat} {x u : Value} (h : c.toList.take k = List.replicate k x) (hu : u ∈ (c.toList.drop so).take (m * 1)) (hso : so = 0) (hm : m = k) (hx : x.oneCell' = true) : u.oneCell' = true := by
  subst hso hm
  rw [List.drop_zero, Nat.mul_one, h] at hu
  rw [(List.mem_replicate.1 hu).2]; exact hx
set_option maxHeartbeats 4000000 in
theorem srepeat_c {E w : World} {R : List Hp} (hH : Has E w [R]) {v : Value} {s : Bs} (hv : Sl R 1 v 1 ([s].map sV)) {n : Nat} (hn : 0 < n ∧ n ≤ 1000000) :
    Calls Tryz.prog 53 #[v, (.int .i64 (n : Int))] w fun e w' => ∃ v' hs', e = .returned v' ∧ Own 9 1 v' (List.replicate n s).length ((List.replicate n s).map sV) hs' ∧ Has E w' [hs', R] := by
  refine c_enter (args := [v, (.int .i64 (n : Int))]) Tryz.func53 rfl Tryz.ntmps53 (by simp) ?_
  refine wp_seq_k fun K1 hK1 => ?_
  refine c_region ?_
  refine s_op (o_assign (v := (.slice none 0 0)) rfl ?_)
  refine s_nil ?_
  refine t_norm (hK1 _ _ ?_)
  refine wp_seq_k fun K2 hK2 => ?_
  refine wp_seq_k fun K3 hK3 => ?_
  refine c_region ?_
  refine s_op (o_move (v := (.int .i64 (n : Int))) rfl ?_)
  refine s_op (o_lss (a := (n : Int)) (b := 0) rfl rfl ?_)
  refine s_nil ?_
  refine t_norm (hK3 _ _ ?_)
  refine c_cond rfl (fun h4 => ?_) (fun h4 => ?_)
  · -- (n : Int) < 0
    exfalso; omega
  · -- not: (n : Int) < 0
    refine wp_skip ?_
    refine t_norm (hK2 _ _ ?_)
    refine wp_seq_k fun K5 hK5 => ?_
    refine c_region ?_
    refine s_op (o_move (v := v) rfl ?_)
    refine s_op (o_lenS Tryz.underlying102 rfl hv ?_)
    refine s_op (o_conv (c := ((1 : Nat) : Int)) Tryz.underlying3 Tryz.underlying52 rfl (wu64 (by omega) (by omega)) ?_)
    refine s_op (o_move (v := (.int .i64 (n : Int))) rfl ?_)
    refine s_op (o_conv (c := (n : Int)) Tryz.underlying3 Tryz.underlying52 rfl (wu64 (by omega) (by omega)) ?_)
    refine s_op (o_callf (vs := #[(.int .u64 ((1 : Nat) : Int)), (.int .u64 (n : Int))]) ca94 rfl (args2 rfl rfl) (mul_c hH.all 1 n (by omega) (by omega) (by omega)) ?_)
    rintro _ w8 ⟨rfl, hX6⟩
    refine ⟨_, rfl, ?_⟩
    have hH7 := hX6.of_all
    refine s_op (o_move (v := (.tuple #[(.int .u64 (0 : Int)), (.int .u64 ((1 * n : Nat) : Int))])) rfl ?_)
    refine s_op (o_extract (v := (.int .u64 (0 : Int))) rfl rfl ?_)
    refine s_op (o_extract (v := (.int .u64 ((1 * n : Nat) : Int))) rfl rfl ?_)
    refine s_op (o_assign (v := (.int .u64 (0 : Int))) rfl ?_)
    refine s_op (o_assign (v := (.int .u64 ((1 * n : Nat) : Int))) rfl ?_)
    refine s_nil ?_
    refine t_norm (hK5 _ _ ?_)
    refine wp_seq_k fun K9 hK9 => ?_
    refine wp_seq_k fun K10 hK10 => ?_
    refine c_region ?_
    refine s_op (o_move (v := (.int .u64 (0 : Int))) rfl ?_)
    refine s_op (o_gtr (a := (0 : Int)) (b := 0) rfl rfl ?_)
    refine s_op (o_move (v := (.bool (decide (0 < (0 : Int))))) rfl ?_)
    by_cases h11 : 0 < (0 : Int)
    · -- 0 < (0 : Int)
      exfalso; omega
    · -- not: 0 < (0 : Int)
      refine s_on 23 rfl (congrArg Value.bool (decide_eq_false h11)) (o_move (v := (.int .u64 ((1 * n : Nat) : Int))) rfl ?_)
      refine s_on 23 rfl (congrArg Value.bool (decide_eq_false h11)) (o_gtr (a := ((1 * n : Nat) : Int)) (b := 9223372036854775807) rfl rfl ?_)
      refine s_op (o_pick_f (u := (.bool (decide (9223372036854775807 < ((1 * n : Nat) : Int))))) ((rfl : _ = _).trans (congrArg Value.bool (decide_eq_false h11))) rfl ?_)
      refine s_nil ?_
      refine t_norm (hK10 _ _ ?_)
      refine c_cond rfl (fun h12 => ?_) (fun h12 => ?_)
      · -- 9223372036854775807 < ((1 * n : Nat) : Int)
        exfalso; omega
      · -- not: 9223372036854775807 < ((1 * n : Nat) : Int)
        refine wp_skip ?_
        refine t_norm (hK9 _ _ ?_)
        refine wp_seq_k fun K13 hK13 => ?_
        refine c_region ?_
        refine s_op (o_move (v := (.int .u64 ((1 * n : Nat) : Int))) rfl ?_)
        refine s_op (o_conv (c := ((1 * n : Nat) : Int)) Tryz.underlying52 Tryz.underlying3 rfl (w64 (by omega) (by omega)) ?_)
        refine s_op (o_make Tryz.underlying102 ti9 rfl rfl (by omega) (by omega) (by omega) (by omega) hH7 fun v14 s15 w17 ho16 hH18 => ?_)
        rw [show (((1 * n : Nat) : Int)).toNat = n from by omega] at ho16
        obtain ⟨nb, ncp, nc, rfl, rfl, hnc1, hnc2, hnc3⟩ := own_raw ho16 hn.1
        simp only [maxLen] at hnc2
        refine s_op (o_assign (v := (.slice (some ⟨nb, 0, none⟩) n ncp)) rfl ?_)
        refine s_nil ?_
        refine t_norm (hK13 _ _ ?_)
        refine wp_seq_k fun K19 hK19 => ?_
        refine c_region ?_
        refine s_op (o_move (v := (.slice (some ⟨nb, 0, none⟩) n ncp)) rfl ?_)
        refine s_op (o_move (v := v) rfl ?_)
        refine s_op (o_copy (ds := ([s].map sV)) Tryz.underlying102 ti9 rfl rfl hv hH18 (seg_sub 1 rfl) (by omega) (by intro u hu; first | (have := List.mem_of_mem_take hu; simp at this; rw [this]; rfl) | exact rep_one hcc (List.mem_of_mem_take hu) (by omega) (by omega) rfl) fun c20 w21 hz24 hc22 hH23 => ?_)
        refine s_op (o_assign (v := (.int .i64 ((min 1 n : Nat) : Int))) rfl ?_)
        refine s_nil ?_
        refine t_norm (hK19 _ _ ?_)
        refine wp_seq_k fun K25 hK25 => ?_
        refine wp_block ?_
        have hm1 : min 1 n = 1 := by omega
        rw [hm1] at hc22
        let I27 : Nat → (Nat → Value) → World → Prop := fun n__ r__ w__ => ∃ (k : Nat) (cc : Array Value), n__ = n - k ∧ Has E w__ [[Hp.one nb (.cells cc 9 (0, 0))], R] ∧ (1 ≤ k ∧ k ≤ n) ∧ (cc.size = ncp) ∧ (cc.toList.take k = List.replicate k (S s)) ∧ r__ 0 = v ∧ r__ 1 = (.int .i64 (n : Int)) ∧ r__ 4 = (.slice none 0 0) ∧ r__ 5 = (.int .u64 (0 : Int)) ∧ r__ 6 = (.int .u64 ((1 * n : Nat) : Int)) ∧ r__ 7 = (.slice (some ⟨nb, 0, none⟩) n ncp) ∧ r__ 8 = (.int .i64 (k : Int)) ∧ r__ 10 = (.bool (decide ((n : Int) < 0))) ∧ r__ 26 = (.bool (decide (9223372036854775807 < ((1 * n : Nat) : Int))))
        refine c_loop I27 _ ⟨1, c20, rfl, hH23, (by omega), (by omega), (by rw [hc22]; rfl), rfl, rfl, rfl, rfl, rfl, rfl, (by show Value.int .i64 ((min 1 n : Nat) : Int) = _; rw [hm1]), rfl, rfl⟩ ?_
        rintro n_ r30 w28 ⟨k, cc, rfl, hH29, hk, hcs, hcc, e26_0, e26_1, e26_4, e26_5, e26_6, e26_7, e26_8, e26_10, e26_26⟩
        refine wp_seq_k fun K31 hK31 => ?_
        refine wp_seq_k fun K32 hK32 => ?_
        refine c_region ?_
        refine s_op (o_move (v := (.int .i64 (k : Int))) e26_8 ?_)
        refine s_op (o_move (v := (.slice (some ⟨nb, 0, none⟩) n ncp)) e26_7 ?_)
        refine s_op (o_len Tryz.underlying102 rfl ?_)
        refine s_op (o_lss (a := (k : Int)) (b := (n : Int)) rfl rfl ?_)
        refine s_nil ?_
        refine t_norm (hK32 _ _ ?_)
        refine c_cond rfl (fun h33 => ?_) (fun h33 => ?_)
        · -- (k : Int) < (n : Int)
          refine wp_skip ?_
          refine t_norm (hK31 _ _ ?_)
          refine wp_block ?_
          refine Rest.region mixed (by kernel_rfl) ?_
          have hH34 : Has E { w28 with drawn := w28.drawn + 1 } [[Hp.one nb (.cells cc 9 (0, 0))], R] := Has0.drew hH29 _
          refine Rest.phaseA (fun w_ => Has E w_ []) 0 8 8 rfl (by decide) (by kernel_rfl) ?_
          refine a_op 0 rfl (by kernel_rfl) (fun w_ h_ => o_move (v := (.int .i64 (k : Int))) e26_8 ⟨rfl, rfl⟩) ?_
          refine a_op 1 rfl (by kernel_rfl) (fun w_ h_ => o_move (v := (.slice (some ⟨nb, 0, none⟩) n ncp)) e26_7 ⟨rfl, rfl⟩) ?_
          refine a_op 2 rfl (by kernel_rfl) (fun w_ h_ => o_move (v := (.int .i64 (k : Int))) e26_8 ⟨rfl, rfl⟩) ?_
          refine a_op 4 rfl (by kernel_rfl) (fun w_ h_ => o_move (v := (.slice (some ⟨nb, 0, none⟩) n ncp)) e26_7 ⟨rfl, rfl⟩) ?_
          refine a_op 5 rfl (by kernel_rfl) (fun w_ h_ => o_move (v := (.int .i64 (k : Int))) e26_8 ⟨rfl, rfl⟩) ?_
          have hH35 : Has E { w28 with drawn := w28.drawn + 1 } [] := hH34.first 0 rfl
          refine a_two 3 6 (by kernel_rfl) hH35 ?_ ?_
          · -- first operation 3
            have hH36 : Has E { w28 with drawn := w28.drawn + 1 } [] := hH34.first 0 rfl
            obtain ⟨o37, n38, c39, ho43, hn40, hc41, hq42⟩ := rsl_ex 0 1 (i := (k : Int)) (j := ((n : Nat) : Int)) (m := ((ncp : Nat) : Int)) (by omega) (by omega) (by omega)
            refine ok_w 3 rfl (o_rsl2 (i := (k : Int)) (j := ((n : Nat) : Int)) (m := ((ncp : Nat) : Int)) Tryz.underlying102 ti9 rfl (bounds_l (n := n) (cap := ncp) (i := (k : Int)) (by omega) (by omega)) (by omega) (by omega) (by omega) ho43 hn40 hc41 ?_)
            have hH44 : Has E { w28 with drawn := w28.drawn + 1 } [] := hH34.first 0 rfl
            obtain ⟨o45, n46, c47, ho51, hn48, hc49, hq50⟩ := rsl_ex 0 1 (i := 0) (j := (k : Int)) (m := ((ncp : Nat) : Int)) (by omega) (by omega) (by omega)
            refine a_w 6 rfl (by kernel_rfl) hH44 (o_rsl2 (i := 0) (j := (k : Int)) (m := ((ncp : Nat) : Int)) Tryz.underlying102 ti9 rfl (bounds_h (n := n) (cap := ncp) (j := (k : Int)) (by omega) (by omega)) (by omega) (by omega) (by omega) ho51 hn48 hc49 ?_)
            have hH52 : Has E { w28 with drawn := w28.drawn + 1 } [] := hH34.first 0 rfl
            refine a_w 7 rfl (by kernel_rfl) hH52 (o_copy (ds := (cc.toList.drop o45).take (n46 * 1)) Tryz.underlying102 ti9 rfl rfl (sl_raw (b := nb) (o := o45) (sz := 1) (n := n46) (cap := c47) (c := cc) (e := 9) (g := (0, 0)) (by omega) (by omega) (by omega)) hH34 sub_l (by omega) (by intro u hu; first | (have := List.mem_of_mem_take hu; simp at this; rw [this]; rfl) | exact rep_one hcc (List.mem_of_mem_take hu) (by omega) (by omega) rfl) fun c53 w54 hz57 hc55 hH56 => ?_)
            have hH58 : Has E w54 [] := hH56.first 0 rfl
            refine a_done (by kernel_rfl) hH58 ?_
            refine r_op 8 rfl (by kernel_rfl) (o_add (a := (k : Int)) (b := ((min n46 n38 : Nat) : Int)) rfl rfl (w64 (by omega) (by omega)) ?_)
            refine r_op 9 rfl (by kernel_rfl) (o_assign (v := (.int .i64 ((k : Int) + ((min n46 n38 : Nat) : Int)))) rfl ?_)
            refine Rest.done (by kernel_rfl) ?_
            refine b_norm ?_
            have rstep := rep_step2 hk.1 hk.2 (by omega) hcc hc55 (by omega) (by omega) (by omega) (by omega)
            refine t_norm ⟨n - (k + min k (n - k)), _, rfl, ?_, ?_⟩
            · omega
            · exact ⟨(k + min k (n - k)), c53, rfl, hH56, (by omega), (by rw [hz57]; exact hcs), (rstep), e26_0, e26_1, e26_4, e26_5, e26_6, e26_7, (show ((.int .i64 ((k : Int) + ((min n46 n38 : Nat) : Int))) : Value) = _ from by congr 1; omega), e26_10, e26_26⟩
          · -- first operation 6
            have hH59 : Has E { w28 with drawn := w28.drawn + 1 } [] := hH34.first 0 rfl
            obtain ⟨o60, n61, c62, ho66, hn63, hc64, hq65⟩ := rsl_ex 0 1 (i := 0) (j := (k : Int)) (m := ((ncp : Nat) : Int)) (by omega) (by omega) (by omega)
            refine ok_w 6 rfl (o_rsl2 (i := 0) (j := (k : Int)) (m := ((ncp : Nat) : Int)) Tryz.underlying102 ti9 rfl (bounds_h (n := n) (cap := ncp) (j := (k : Int)) (by omega) (by omega)) (by omega) (by omega) (by omega) ho66 hn63 hc64 ?_)
            have hH67 : Has E { w28 with drawn := w28.drawn + 1 } [] := hH34.first 0 rfl
            obtain ⟨o68, n69, c70, ho74, hn71, hc72, hq73⟩ := rsl_ex 0 1 (i := (k : Int)) (j := ((n : Nat) : Int)) (m := ((ncp : Nat) : Int)) (by omega) (by omega) (by omega)
            refine a_w 3 rfl (by kernel_rfl) hH67 (o_rsl2 (i := (k : Int)) (j := ((n : Nat) : Int)) (m := ((ncp : Nat) : Int)) Tryz.underlying102 ti9 rfl (bounds_l (n := n) (cap := ncp) (i := (k : Int)) (by omega) (by omega)) (by omega) (by omega) (by omega) ho74 hn71 hc72 ?_)
            have hH75 : Has E { w28 with drawn := w28.drawn + 1 } [] := hH34.first 0 rfl
            refine a_w 7 rfl (by kernel_rfl) hH75 (o_copy (ds := (cc.toList.drop o60).take (n61 * 1)) Tryz.underlying102 ti9 rfl rfl (sl_raw (b := nb) (o := o60) (sz := 1) (n := n61) (cap := c62) (c := cc) (e := 9) (g := (0, 0)) (by omega) (by omega) (by omega)) hH34 sub_l (by omega) (by intro u hu; first | (have := List.mem_of_mem_take hu; simp at this; rw [this]; rfl) | exact rep_one hcc (List.mem_of_mem_take hu) (by omega) (by omega) rfl) fun c76 w77 hz80 hc78 hH79 => ?_)
            have hH81 : Has E w77 [] := hH79.first 0 rfl
            refine a_done (by kernel_rfl) hH81 ?_
            refine r_op 8 rfl (by kernel_rfl) (o_add (a := (k : Int)) (b := ((min n61 n69 : Nat) : Int)) rfl rfl (w64 (by omega) (by omega)) ?_)
            refine r_op 9 rfl (by kernel_rfl) (o_assign (v := (.int .i64 ((k : Int) + ((min n61 n69 : Nat) : Int)))) rfl ?_)
            refine Rest.done (by kernel_rfl) ?_
            refine b_norm ?_
            have rstep := rep_step2 hk.1 hk.2 (by omega) hcc hc78 (by omega) (by omega) (by omega) (by omega)
            refine t_norm ⟨n - (k + min k (n - k)), _, rfl, ?_, ?_⟩
            · omega
            · exact ⟨(k + min k (n - k)), c76, rfl, hH79, (by omega), (by rw [hz80]; exact hcs), (rstep), e26_0, e26_1, e26_4, e26_5, e26_6, e26_7, (show ((.int .i64 ((k : Int) + ((min n61 n69 : Nat) : Int))) : Value) = _ from by congr 1; omega), e26_10, e26_26⟩
        · -- not: (k : Int) < (n : Int)
          refine wp_exit ?_
          refine t_exit (t_exit (x_in (?_)))
          refine t_norm (hK25 _ _ ?_)
          refine wp_seq_k fun K82 hK82 => ?_
          refine c_region ?_
          refine s_op (o_move (v := (.slice (some ⟨nb, 0, none⟩) n ncp)) e26_7 ?_)
          refine s_op (o_assign (v := (.slice (some ⟨nb, 0, none⟩) n ncp)) rfl ?_)
          refine s_nil ?_
          refine t_norm (hK82 _ _ ?_)
          refine wp_ret ?_
          refine c_ret1 Tryz.results53  (v := (.slice (some ⟨nb, 0, none⟩) n ncp)) rfl ?_
          have e_ : k = n := by omega
          subst e_
          exact ⟨_, _, rfl, ⟨by simp, .inr ⟨nb, ncp, cc, by rw [List.length_replicate], rfl, by rw [List.length_replicate]; omega, by simp only [maxLen]; omega, by omega, by rw [List.length_replicate, Nat.mul_one, hcc, List.map_replicate]; rfl⟩⟩, hH29⟩
end Go.Q
namespace Go.Q
open Go.Proofs Go.Shelf
def kyl_ren : Go.Shelf.Ren := ⟨fun | 7 => 58 | 10 => 101 | n => n, fun | 23 => 105 | 26 => 3 | 3 => 9 | 28 => 112 | 0 => 0 | 27 => 111 | 33 => 117 | 4 => 4 | n => n, fun | n => n⟩
theorem kyl : Go.Proofs.SlLaysZI.n7 Tryz.prog kyl_ren := {
  mixed := by kernel_rfl
  f7 := ⟨Tryz.f58.name, by decide, Tryz.func58.trans (congrArg some (by kernel_rfl))⟩
  f10 := ⟨Tryz.f101.name, by decide, Tryz.func101.trans (congrArg some (by kernel_rfl))⟩
  t0 := Tryz.underlying0
  a0 := Tryz.isAgg0
  z0 := Tryz.sizeOf0
  v0 := Tryz.zeroValue0
  t4 := Tryz.underlying4
  a4 := Tryz.isAgg4
  z4 := Tryz.sizeOf4
  v4 := Tryz.zeroValue4
  t23 := Tryz.underlying105
  a23 := Tryz.isAgg105
  z23 := Tryz.sizeOf105
  v23 := Tryz.zeroValue105
  t26 := Tryz.underlying3
  a26 := Tryz.isAgg3
  z26 := Tryz.sizeOf3
  v26 := Tryz.zeroValue3
  t27 := Tryz.underlying111
  a27 := Tryz.isAgg111
  z27 := Tryz.sizeOf111
  v27 := Tryz.zeroValue111
  t28 := Tryz.underlying112
  a28 := Tryz.isAgg112
  z28 := Tryz.sizeOf112
  v28 := Tryz.zeroValue112
  t33 := Tryz.underlying117
  a33 := Tryz.isAgg117
  z33 := Tryz.sizeOf117
  v33 := Tryz.zeroValue117 }
def stl_ren : Go.Shelf.Ren := ⟨fun | 6 => 57 | 8 => 99 | 9 => 100 | 11 => 124 | 13 => 126 | 12 => 125 | 23 => 153 | 24 => 154 | 14 => 144 | 15 => 145 | 16 => 146 | 17 => 147 | 18 => 148 | 19 => 149 | 20 => 150 | 21 => 151 | 22 => 152 | 25 => 166 | 26 => 167 | 27 => 168 | 28 => 169 | 29 => 170 | 30 => 171 | 31 => 179 | n => n, fun | 26 => 3 | 28 => 112 | 24 => 40 | 0 => 0 | 3 => 3 | 37 => 52 | 48 => 160 | 50 => 163 | 4 => 4 | 40 => 188 | 39 => 187 | 45 => 83 | 5 => 5 | 9 => 9 | 51 => 206 | 55 => 210 | 57 => 214 | 58 => 215 | 33 => 117 | n => n, fun | n => n⟩
theorem stl : Go.Proofs.SlLaysZI.n6 Tryz.prog stl_ren := {
  mixed := by kernel_rfl
  f6 := ⟨Tryz.f57.name, by decide, Tryz.func57.trans (congrArg some (by kernel_rfl))⟩
  f8 := ⟨Tryz.f99.name, by decide, Tryz.func99.trans (congrArg some (by kernel_rfl))⟩
  f11 := ⟨Tryz.f124.name, by decide, Tryz.func124.trans (congrArg some (by kernel_rfl))⟩
  t0 := Tryz.underlying0
  a0 := Tryz.isAgg0
  z0 := Tryz.sizeOf0
  v0 := Tryz.zeroValue0
  t24 := Tryz.underlying40
  a24 := Tryz.isAgg40
  z24 := Tryz.sizeOf40
  v24 := Tryz.zeroValue40
  t26 := Tryz.underlying3
  a26 := Tryz.isAgg3
  z26 := Tryz.sizeOf3
  v26 := Tryz.zeroValue3
  t28 := Tryz.underlying112
  a28 := Tryz.isAgg112
  z28 := Tryz.sizeOf112
  v28 := Tryz.zeroValue112
  i26 := by kernel_rfl }
def srl_ren : Go.Shelf.Ren := ⟨fun | 5 => 100 | 8 => 126 | 7 => 125 | 19 => 153 | 20 => 154 | 10 => 144 | 11 => 145 | 12 => 146 | 13 => 147 | 14 => 148 | 15 => 149 | 16 => 150 | 17 => 151 | 18 => 152 | 30 => 166 | 31 => 167 | 32 => 168 | 33 => 169 | 34 => 170 | 35 => 171 | 40 => 179 | n => n, fun | 23 => 40 | 25 => 3 | 3 => 3 | 32 => 52 | 22 => 40 | 0 => 0 | 44 => 160 | 46 => 163 | 4 => 4 | 36 => 188 | 35 => 187 | 41 => 83 | 5 => 5 | 9 => 9 | 53 => 206 | 57 => 210 | 63 => 214 | 64 => 215 | n => n, fun | n => n⟩
theorem srl : Go.Proofs.SlLaysM.n5 Tryz.prog srl_ren := {
  mixed := by kernel_rfl
  f5 := ⟨Tryz.f100.name, by decide, Tryz.func100.trans (congrArg some (by kernel_rfl))⟩
  f7 := ⟨Tryz.f125.name, by decide, Tryz.func125.trans (congrArg some (by kernel_rfl))⟩
  f8 := Tryz.func126.trans (congrArg some (by kernel_rfl))
  f10 := ⟨Tryz.f144.name, by decide, Tryz.func144.trans (congrArg some (by kernel_rfl))⟩
  f11 := ⟨Tryz.f145.name, by decide, Tryz.func145.trans (congrArg some (by kernel_rfl))⟩
  f12 := ⟨Tryz.f146.name, by decide, Tryz.func146.trans (congrArg some (by kernel_rfl))⟩
  f13 := ⟨Tryz.f147.name, by decide, Tryz.func147.trans (congrArg some (by kernel_rfl))⟩
  f14 := ⟨Tryz.f148.name, by decide, Tryz.func148.trans (congrArg some (by kernel_rfl))⟩
  f15 := ⟨Tryz.f149.name, by decide, Tryz.func149.trans (congrArg some (by kernel_rfl))⟩
  f16 := ⟨Tryz.f150.name, by decide, Tryz.func150.trans (congrArg some (by kernel_rfl))⟩
  f17 := ⟨Tryz.f151.name, by decide, Tryz.func151.trans (congrArg some (by kernel_rfl))⟩
  f18 := ⟨Tryz.f152.name, by decide, Tryz.func152.trans (congrArg some (by kernel_rfl))⟩
  f19 := Tryz.func153.trans (congrArg some (by kernel_rfl))
  f20 := Tryz.func154.trans (congrArg some (by kernel_rfl))
  f30 := ⟨Tryz.f166.name, by decide, Tryz.func166.trans (congrArg some (by kernel_rfl))⟩
  f31 := Tryz.func167.trans (congrArg some (by kernel_rfl))
  f32 := Tryz.func168.trans (congrArg some (by kernel_rfl))
  f33 := ⟨Tryz.f169.name, by decide, Tryz.func169.trans (congrArg some (by kernel_rfl))⟩
  f34 := ⟨Tryz.f170.name, by decide, Tryz.func170.trans (congrArg some (by kernel_rfl))⟩
  f35 := ⟨Tryz.f171.name, by decide, Tryz.func171.trans (congrArg some (by kernel_rfl))⟩
  f40 := ⟨Tryz.f179.name, by decide, Tryz.func179.trans (congrArg some (by kernel_rfl))⟩
  t0 := Tryz.underlying0
  a0 := Tryz.isAgg0
  z0 := Tryz.sizeOf0
  v0 := Tryz.zeroValue0
  t3 := Tryz.underlying3
  a3 := Tryz.isAgg3
  z3 := Tryz.sizeOf3
  v3 := Tryz.zeroValue3
  t4 := Tryz.underlying4
  a4 := Tryz.isAgg4
  z4 := Tryz.sizeOf4
  v4 := Tryz.zeroValue4
  t5 := Tryz.underlying5
  a5 := Tryz.isAgg5
  z5 := Tryz.sizeOf5
  v5 := Tryz.zeroValue5
  t9 := Tryz.underlying9
  a9 := Tryz.isAgg9
  z9 := Tryz.sizeOf9
  v9 := Tryz.zeroValue9
  t22 := Tryz.underlying40
  a22 := Tryz.isAgg40
  z22 := Tryz.sizeOf40
  v22 := Tryz.zeroValue40
  t23 := Tryz.underlying40
  a23 := Tryz.isAgg40
  z23 := Tryz.sizeOf40
  v23 := Tryz.zeroValue40
  t25 := Tryz.underlying3
  a25 := Tryz.isAgg3
  z25 := Tryz.sizeOf3
  v25 := Tryz.zeroValue3
  t32 := Tryz.underlying52
  a32 := Tryz.isAgg52
  z32 := Tryz.sizeOf52
  v32 := Tryz.zeroValue52
  t35 := Tryz.underlying187
  a35 := Tryz.isAgg187
  z35 := Tryz.sizeOf187
  v35 := Tryz.zeroValue187
  t36 := Tryz.underlying188
  a36 := Tryz.isAgg188
  z36 := Tryz.sizeOf188
  v36 := Tryz.zeroValue188
  t41 := Tryz.underlying83
  a41 := Tryz.isAgg83
  z41 := Tryz.sizeOf83
  v41 := Tryz.zeroValue83
  t44 := Tryz.underlying160
  a44 := Tryz.isAgg160
  z44 := Tryz.sizeOf160
  v44 := Tryz.zeroValue160
  t46 := Tryz.underlying163
  a46 := Tryz.isAgg163
  z46 := Tryz.sizeOf163
  v46 := Tryz.zeroValue163
  t53 := Tryz.underlying206
  a53 := Tryz.isAgg206
  z53 := Tryz.sizeOf206
  v53 := Tryz.zeroValue206
  t57 := Tryz.underlying210
  a57 := Tryz.isAgg210
  z57 := Tryz.sizeOf210
  v57 := Tryz.zeroValue210
  t63 := Tryz.underlying214
  a63 := Tryz.isAgg214
  z63 := Tryz.sizeOf214
  v63 := Tryz.zeroValue214
  t64 := Tryz.underlying215
  a64 := Tryz.isAgg215
  z64 := Tryz.sizeOf215
  v64 := Tryz.zeroValue215 }
theorem srl_in (m : Nat) : AnyZI.SortsIn Tryz.prog stl_ren Fence.wide m :=
  ⟨fun blk off cap ss W hH hblk hsz => callsIn_wide.2 (AnyM.slices_Sort_int srl blk off cap ss W hH hblk hsz),
   fun p cap W => callsIn_wide.2 (AnyM.slices_Sort_int_none srl p cap W)⟩
theorem Has.row {E w w' : World} {ss : List (List Hp)} (H : Has E w ss) (hb : Go.RowKit.Below w.heap.size w w') {e : TypeId} {sz n : Nat} {v : Value} {cs : List Value} (hr : w'.ownsRow w.heap.size e sz v n cs) : ∃ hs, Own e sz v n cs hs ∧ Has E w' (hs :: ss) := by
  have H' := H.of_below hb
  obtain ⟨hl, ⟨rfl, h0⟩ | ⟨k, cap, cur, rfl, hk, hbk, h1, h2, h3, h4⟩⟩ := hr
  · exact ⟨[], ⟨hl, .inl ⟨rfl, h0, rfl⟩⟩, Has.nil H'⟩
  · refine ⟨[Hp.one k (.cells cur e (0, 0))], ⟨hl, .inr ⟨k, cap, cur, rfl, rfl, h1, h2, h3, h4⟩⟩, ?_⟩
    refine ⟨H'.os, H'.tape, H'.output, ?_, ?_⟩
    · refine List.pairwise_cons.2 ⟨fun h hh j => ?_, H'.dj⟩
      cases hj : h j with
      | none => exact .inr rfl
      | some o =>
        refine .inl ?_
        have := (Array.getElem?_eq_some_iff.1 (Has0.sub H h hh j o hj)).1
        unfold Hp.one; rw [if_neg (by omega)]
    · intro h hh
      rcases List.mem_cons.1 hh with rfl | hh
      · intro j o hj
        obtain ⟨rfl, rfl⟩ := Hp.one_some hj
        exact hbk
      · exact Has0.sub H' h hh
theorem mkeys_c {E w : World} {ss : List Hp} (H : Has E w [ss]) (mb : Nat) : Calls Tryz.prog 58 #[.map (some mb)] w fun e w' => ∃ b, e = .returned (.func (.func 101) #[] #[.pointer (some ⟨b, 0, none⟩)]) ∧ Has E w' [[Hp.one b (.cells #[.map (some mb)] 105 (0, 0))], ss] := by
  refine (callsIn_wide.1 (AnyZI.keys_in kyl Fence.wide 5 trivial rfl (some mb) w)).mono fun e w' ⟨he, hw⟩ => ⟨w.heap.size, he, ?_⟩
  rw [hw]
  exact H.alloc _
set_option maxRecDepth 100000 in
theorem MapV.owns {f : Bs → Value} {es : Array MapEntry} {c : Nat} {lo : List (Int × Bs)} (h : MapV iV f es c lo) {w : World} {b : Nat} (hb : w.heap[b]? = some (.map es c)) {k : TypeId} (hk : Tryz.prog.underlying k = some (.int .i64))
    (hw : ∀ p ∈ lo, (Lit.int .i64 p.1).wf = true) (hn : lo.length ≤ 1000000) : ∃ D : DataW Nat, w.ownsMap Tryz.prog k (fun _ => some (.lit (.bool true), [])) b lo.length D ∧ Maps.size D = lo.length ∧ (intKeys D).Perm (lo.map (·.1)) := by
  have hkey : ∀ x ∈ es.toList, ∃ p ∈ lo, x.key = .int .i64 p.1 := fun x hx => by
    have : x.key ∈ es.toList.map (·.key) := List.mem_map.2 ⟨x, hx, rfl⟩
    rw [h.keys] at this
    obtain ⟨p, hp, e⟩ := List.mem_map.1 this
    exact ⟨p, hp, e.symm⟩
  have hrd : ∀ x ∈ es.toList, ∃ p ∈ lo, x.key = .int .i64 p.1 ∧ Go.WideElems.rd (H := Nat) Tryz.prog k (fun _ => some (.lit (.bool true), [])) x = some (.int .i64 p.1, .lit (.bool true)) := fun x hx => by
    obtain ⟨p, hp, e⟩ := hkey x hx
    refine ⟨p, hp, e, ?_⟩
    unfold Go.WideElems.rd
    rw [e, Go.Maps.keyOf_int_mk hk (hw p hp)]; rfl
  have hsz := h.size
  refine ⟨.map ((es.toList.map (Go.WideElems.rg Tryz.prog k (fun _ => some (.lit (.bool true), [])))).foldr DataW.insert []), ⟨es, c, hb, ⟨by rw [hsz]; simp only [maxLen]; omega, h.2, fun x hx => by obtain ⟨p, _, _, e⟩ := hrd x hx; exact ⟨_, e⟩⟩, by omega, rfl⟩, ?_, ?_⟩
  · show List.length _ = _
    rw [(Go.WideShapes.sorted_perm _).length_eq, List.length_map]; simpa using hsz
  · show (List.map (fun p : Lit × DataW Nat => intOf p.1) _).Perm _
    refine ((Go.WideShapes.sorted_perm _).map _).trans ?_
    rw [List.map_map]
    have e1 : es.toList.map ((fun p : Lit × DataW Nat => intOf p.1) ∘ Go.WideElems.rg Tryz.prog k (fun _ => some (.lit (.bool true), []))) = es.toList.map (fun x => match x.key with | .int _ a => a | _ => 0) := List.map_congr_left fun x hx => by
      obtain ⟨p, _, e, g⟩ := hrd x hx
      show intOf (Go.WideElems.rg _ _ _ x).1 = _
      unfold Go.WideElems.rg
      rw [g, e]; rfl
    have e2 : es.toList.map (fun x => match x.key with | .int _ a => a | _ => 0) = lo.map (·.1) := by
      have := congrArg (List.map (fun v : Value => match v with | .int _ a => a | _ => (0 : Int))) h.keys
      rw [List.map_map, List.map_map] at this
      exact this
    rw [e1, e2]
theorem skeys_c {E w : World} {R : List Hp} {b mb c : Nat} {es : Array MapEntry} {lo : List (Int × Bs)} {f : Bs → Value} (H : Has E w [[Hp.one b (.cells #[.map (some mb)] 105 (0, 0))], [Hp.one mb (.map es c)], R]) (hm : MapV iV f es c lo)
    (hw : ∀ p ∈ lo, (Lit.int .i64 p.1).wf = true) (hn : lo.length ≤ 1000000) :
    Calls Tryz.prog 57 #[.func (.func 101) #[] #[.pointer (some ⟨b, 0, none⟩)]] w fun e w' => ∃ v hs, e = .returned v ∧ Own 3 1 v (keysS lo).length ((keysS lo).map iV) hs ∧ Has E w' [hs, [Hp.one b (.cells #[.map (some mb)] 105 (0, 0))], [Hp.one mb (.map es c)], R] := by
  have hb1 : w.heap[b]? = some (.cells #[.map (some mb)] 105 (0, 0)) := H.at (h := Hp.one b (.cells #[.map (some mb)] 105 (0, 0))) (by simp) (Hp.one_at _ _)
  have hb2 : w.heap[mb]? = some (.map es c) := H.at (h := Hp.one mb (.map es c)) (by simp) (Hp.one_at _ _)
  obtain ⟨D, hown, hsz, hperm⟩ := hm.owns hb2 (k := 3) Tryz.underlying3 hw hn
  have hlt : b < w.heap.size := (Array.getElem?_eq_some_iff.1 hb1).1
  have hseq : SeqGives Fence.wide 2 Tryz.prog 101 #[.pointer (some ⟨b, 0, none⟩)] encZ (fun ss => ss.Perm (intKeys D)) (Maps.size D) w :=
    AnyZI.keys_gives (ρ := kyl_ren) { kyl with } Fence.wide _ trivial rfl (by omega) b mb lo.length D w hlt (by simp [World.cell?, hb1]) hown
  have hs := AnyZI.sorted_in stl Fence.wide 5 trivial trivial trivial trivial rfl (by omega) (srl_in _) (enters_of Tryz.func100 (by kernel_rfl) rfl) 101 #[.pointer (some ⟨b, 0, none⟩)] trivial (enters_of Tryz.func101 (by kernel_rfl) rfl) _ (Maps.size D) (by simp only [maxLen]; omega) (by omega) w hseq
  refine (callsIn_wide.1 hs).mono fun e w' ⟨v, ss, he, hp, hrow, _, hbl⟩ => ?_
  obtain ⟨hs', ho, hH⟩ := H.row hbl hrow
  have e1 : ss.mergeSort (fun x y => decide (x ≤ y)) = keysS lo := mergeSort_of_perm_i (hp.trans hperm)
  have hl : ss.length = (keysS lo).length := by rw [← e1, List.length_mergeSort]
  rw [e1, hl] at ho
  exact ⟨v, hs', he, ho, hH⟩
end Go.Q
namespace Go.Q
open Go.Proofs
set_option linter.unusedVariables false
set_option maxRecDepth 100000
attribute [local irreducible] wpList OK Code.wp
theorem wf_of {n : Int} {k : Nat} (h : inS n k) (hk : k ≤ 4096) : (Lit.int .i64 n).wf = true := by
  unfold inS at h
  simp only [Lit.wf, IntKind.min, IntKind.max, IntKind.signed, IntKind.bits, Bool.and_eq_true, decide_eq_true_eq, if_true]
  omega
theorem lo_le {es : Array MapEntry} {c : Nat} {lo : List (Int × Bs)} {k : Nat} (hm : MapV iV sV es c lo) (h : LoOk lo k) (hk : k ≤ 4096) : lo.length ≤ 1000000 := by
  have := nodup_len (lo.map (·.1)) ((List.range k).map Int.ofNat) hm.nodup fun x hx => by
    obtain ⟨p, hp, rfl⟩ := List.mem_map.1 hx
    have := (h p hp).1
    unfold inS at this
    exact List.mem_map.2 ⟨p.1.toNat, List.mem_range.2 (by omega), by show ((p.1.toNat : Nat) : Int) = _; omega⟩
  rw [List.length_map, List.length_map, List.length_range] at this; omega
set_option maxHeartbeats 4000000 in
theorem sectors_i {E w : World} {R hL : List Hp} {pb db mb c : Nat} {p : Pw} {v : Value} {es : Array MapEntry} {la : List Bs} {lo : List (Int × Bs)} (hH : Has E w [hL, [Hp.one mb (.map es c)], [Hp.one db (.cells #[(.pointer (some ⟨pb, 0, none⟩)), v, (.map (some mb))] 107 (0, 0))], [Hp.one pb (.cells #[(.bool p.off), (.bool p.armed), (.int .i64 p.left), (.int .i64 p.uses)] 101 (0, 0))], R]) (ho : Own 9 1 v la.length (la.map sV) hL) (hm : MapV iV sV es c lo) :
    Calls Tryz.prog 51 #[(.pointer (some ⟨db, 0, none⟩))] w fun e w' => e = .returned (.int .i64 ((la.length : Nat) : Int)) ∧ Has E w' [hL, [Hp.one mb (.map es c)], [Hp.one db (.cells #[(.pointer (some ⟨pb, 0, none⟩)), v, (.map (some mb))] 107 (0, 0))], [Hp.one pb (.cells #[(.bool p.off), (.bool p.armed), (.int .i64 p.left), (.int .i64 p.uses)] 101 (0, 0))], R] := by
  refine c_enter (args := [(.pointer (some ⟨db, 0, none⟩))]) Tryz.func51 rfl Tryz.ntmps51 (by simp) ?_
  refine wp_seq_k fun K1 hK1 => ?_
  refine c_region ?_
  refine s_op (o_assign (v := (.int .i64 0)) rfl ?_)
  refine s_nil ?_
  refine t_norm (hK1 _ _ ?_)
  refine wp_seq_k fun K2 hK2 => ?_
  refine wp_seq_k fun K3 hK3 => ?_
  refine c_region ?_
  refine s_op (o_move (v := (.pointer (some ⟨db, 0, none⟩))) rfl ?_)
  refine s_op (o_pnil (p := some _) Tryz.underlying29 rfl rfl ?_)
  refine s_nil ?_
  refine t_norm (hK3 _ _ ?_)
  refine c_false rfl rfl ?_
  refine wp_skip ?_
  refine t_norm (hK2 _ _ ?_)
  refine wp_seq_k fun K4 hK4 => ?_
  refine c_region ?_
  refine s_op (o_move (v := (.pointer (some ⟨db, 0, none⟩))) rfl ?_)
  refine s_op (o_nilCheck rfl ?_)
  refine s_op (o_fieldAddr (k := 1) (fun _ => by kernel_rfl) rfl ?_)
  refine s_op (o_load1 (v := v) Tryz.underlying102 rfl rfl hH (seg_sub 2 rfl) (CellsAt.one rfl) ?_)
  refine s_op (o_lenS Tryz.underlying102 rfl ho.sl ?_)
  refine s_op (o_assign (v := (.int .i64 ((la.length : Nat) : Int))) rfl ?_)
  refine s_nil ?_
  refine t_norm (hK4 _ _ ?_)
  refine wp_ret ?_
  refine c_ret1 Tryz.results51  (v := (.int .i64 ((la.length : Nat) : Int))) rfl ?_
  exact ⟨rfl, hH⟩
set_option maxHeartbeats 4000000 in
theorem don_i {E w : World} {R hL : List Hp} {pb db mb c : Nat} {p : Pw} {v : Value} {es : Array MapEntry} {la : List Bs} {lo : List (Int × Bs)} (hH : Has E w [hL, [Hp.one mb (.map es c)], [Hp.one db (.cells #[(.pointer (some ⟨pb, 0, none⟩)), v, (.map (some mb))] 107 (0, 0))], [Hp.one pb (.cells #[(.bool p.off), (.bool p.armed), (.int .i64 p.left), (.int .i64 p.uses)] 101 (0, 0))], R]) (ho : Own 9 1 v la.length (la.map sV) hL) (hm : MapV iV sV es c lo) :
    Calls Tryz.prog 72 #[(.pointer (some ⟨db, 0, none⟩))] w fun e w' => e = .returned (.bool (!p.off)) ∧ Has E w' [hL, [Hp.one mb (.map es c)], [Hp.one db (.cells #[(.pointer (some ⟨pb, 0, none⟩)), v, (.map (some mb))] 107 (0, 0))], [Hp.one pb (.cells #[(.bool p.off), (.bool p.armed), (.int .i64 p.left), (.int .i64 p.uses)] 101 (0, 0))], R] := by
  refine c_enter (args := [(.pointer (some ⟨db, 0, none⟩))]) Tryz.func72 rfl Tryz.ntmps72 (by simp) ?_
  refine wp_seq_k fun K1 hK1 => ?_
  refine c_region ?_
  refine s_op (o_assign (v := (.bool false)) rfl ?_)
  refine s_nil ?_
  refine t_norm (hK1 _ _ ?_)
  refine wp_seq_k fun K2 hK2 => ?_
  refine c_region ?_
  refine s_op (o_move (v := (.pointer (some ⟨db, 0, none⟩))) rfl ?_)
  refine s_op (o_pnnil (p := some _) Tryz.underlying29 rfl rfl ?_)
  refine s_op (o_move (v := (.bool true)) rfl ?_)
  refine s_on 5 rfl rfl (o_move (v := (.pointer (some ⟨db, 0, none⟩))) rfl ?_)
  refine s_on 5 rfl rfl (o_nilCheck rfl ?_)
  refine s_on 5 rfl rfl (o_fieldAddr (k := 0) (fun _ => by kernel_rfl) rfl ?_)
  refine s_on 5 rfl rfl (o_load1 (v := (.pointer (some ⟨pb, 0, none⟩))) Tryz.underlying99 rfl rfl hH (seg_sub 2 rfl) (CellsAt.one rfl) ?_)
  refine s_on 5 rfl rfl (o_callf (vs := #[(.pointer (some ⟨pb, 0, none⟩))]) ca111 rfl (args1 rfl) (pon_c (p := p) (hH.front 3 rfl).all1) ?_)
  rintro _ w5 ⟨rfl, hX3⟩
  refine ⟨_, rfl, ?_⟩
  have hH4 : Has E w5 [[Hp.one pb (.cells #[(.bool p.off), (.bool p.armed), (.int .i64 p.left), (.int .i64 p.uses)] 101 (0, 0))], hL, [Hp.one mb (.map es c)], [Hp.one db (.cells #[(.pointer (some ⟨pb, 0, none⟩)), v, (.map (some mb))] 107 (0, 0))], R] := hX3.of_all1
  refine s_op (o_pick_t (u := (.bool (!p.off))) rfl rfl ?_)
  refine s_op (o_assign (v := (.bool (!p.off))) rfl ?_)
  refine s_nil ?_
  refine t_norm (hK2 _ _ ?_)
  refine wp_ret ?_
  refine c_ret1 Tryz.results72  (v := (.bool (!p.off))) rfl ?_
  have hH6 : Has E w5 [hL, [Hp.one mb (.map es c)], [Hp.one db (.cells #[(.pointer (some ⟨pb, 0, none⟩)), v, (.map (some mb))] 107 (0, 0))], [Hp.one pb (.cells #[(.bool p.off), (.bool p.armed), (.int .i64 p.left), (.int .i64 p.uses)] 101 (0, 0))], R] := (((((hH4.front 4 rfl).front 1 rfl).front 4 rfl).front 4 rfl).front 4 rfl).first 5 rfl
  exact ⟨rfl, hH6⟩
set_option maxHeartbeats 4000000 in
theorem has_i {E w : World} {R hL : List Hp} {pb db mb c : Nat} {p : Pw} {v : Value} {es : Array MapEntry} {la : List Bs} {lo : List (Int × Bs)} (hH : Has E w [hL, [Hp.one mb (.map es c)], [Hp.one db (.cells #[(.pointer (some ⟨pb, 0, none⟩)), v, (.map (some mb))] 107 (0, 0))], [Hp.one pb (.cells #[(.bool p.off), (.bool p.armed), (.int .i64 p.left), (.int .i64 p.uses)] 101 (0, 0))], R]) (ho : Own 9 1 v la.length (la.map sV) hL) (hm : MapV iV sV es c lo) (n : Int) :
    Calls Tryz.prog 69 #[(.pointer (some ⟨db, 0, none⟩)), (.int .i64 n)] w fun e w' => e = .returned (.bool (decide (inS n la.length))) ∧ Has E w' [hL, [Hp.one mb (.map es c)], [Hp.one db (.cells #[(.pointer (some ⟨pb, 0, none⟩)), v, (.map (some mb))] 107 (0, 0))], [Hp.one pb (.cells #[(.bool p.off), (.bool p.armed), (.int .i64 p.left), (.int .i64 p.uses)] 101 (0, 0))], R] := by
  refine c_enter (args := [(.pointer (some ⟨db, 0, none⟩)), (.int .i64 n)]) Tryz.func69 rfl Tryz.ntmps69 (by simp) ?_
  refine wp_seq_k fun K1 hK1 => ?_
  refine c_region ?_
  refine s_op (o_assign (v := (.bool false)) rfl ?_)
  refine s_nil ?_
  refine t_norm (hK1 _ _ ?_)
  refine wp_seq_k fun K2 hK2 => ?_
  refine c_region ?_
  refine s_op (o_move (v := (.int .i64 n)) rfl ?_)
  refine s_op (o_geq (a := n) (b := 0) rfl rfl ?_)
  refine s_op (o_move (v := (.bool (decide (0 ≤ n)))) rfl ?_)
  by_cases h3 : 0 ≤ n
  · -- 0 ≤ n
    refine s_on 7 rfl (congrArg Value.bool (decide_eq_true h3)) (o_move (v := (.int .i64 n)) rfl ?_)
    refine s_on 7 rfl (congrArg Value.bool (decide_eq_true h3)) (o_move (v := (.pointer (some ⟨db, 0, none⟩))) rfl ?_)
    refine s_on 7 rfl (congrArg Value.bool (decide_eq_true h3)) (o_callf (vs := #[(.pointer (some ⟨db, 0, none⟩))]) ca51 rfl (args1 rfl) (sectors_i (p := p) (la := la) (lo := lo) ((((hH.front 3 rfl).front 3 rfl).front 3 rfl).front 3 rfl).all4 ho hm ) ?_)
    rintro _ w6 ⟨rfl, hX4⟩
    refine ⟨_, rfl, ?_⟩
    have hH5 : Has E w6 [hL, [Hp.one mb (.map es c)], [Hp.one db (.cells #[(.pointer (some ⟨pb, 0, none⟩)), v, (.map (some mb))] 107 (0, 0))], [Hp.one pb (.cells #[(.bool p.off), (.bool p.armed), (.int .i64 p.left), (.int .i64 p.uses)] 101 (0, 0))], R] := hX4.of_all4
    refine s_on 7 rfl (congrArg Value.bool (decide_eq_true h3)) (o_lss (a := n) (b := ((la.length : Nat) : Int)) rfl rfl ?_)
    refine s_op (o_pick_t (u := (.bool (decide (n < ((la.length : Nat) : Int))))) ((rfl : _ = _).trans (congrArg Value.bool (decide_eq_true h3))) rfl ?_)
    refine s_op (o_assign (v := (.bool (decide (n < ((la.length : Nat) : Int))))) rfl ?_)
    refine s_nil ?_
    refine t_norm (hK2 _ _ ?_)
    refine wp_ret ?_
    refine c_ret1 Tryz.results69  (v := (.bool (decide (n < ((la.length : Nat) : Int))))) rfl ?_
    exact ⟨congrArg Ending.returned (congrArg Value.bool (decide_eq_decide.2 ⟨fun g => ⟨h3, g⟩, fun g => g.2⟩)), hH5⟩
  · -- not: 0 ≤ n
    refine s_off (b' := false) 7 rfl (congrArg Value.bool (decide_eq_false h3)) rfl ?_
    refine s_off (b' := false) 7 rfl (congrArg Value.bool (decide_eq_false h3)) rfl ?_
    refine s_off (b' := false) 7 rfl (congrArg Value.bool (decide_eq_false h3)) rfl ?_
    refine s_off (b' := false) 7 rfl (congrArg Value.bool (decide_eq_false h3)) rfl ?_
    refine s_op (o_pick_f (u := (.bool false)) ((rfl : _ = _).trans (congrArg Value.bool (decide_eq_false h3))) rfl ?_)
    refine s_op (o_assign (v := (.bool false)) rfl ?_)
    refine s_nil ?_
    refine t_norm (hK2 _ _ ?_)
    refine wp_ret ?_
    refine c_ret1 Tryz.results69  (v := (.bool false)) rfl ?_
    exact ⟨congrArg Ending.returned (congrArg Value.bool (decide_eq_false (fun g : inS n la.length => h3 g.1)).symm), hH⟩
end Go.Q
