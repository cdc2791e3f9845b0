/-
  Parts of a walk: what functions of the program compute, each told by a theorem.
-/
import Derived.Test.YtlaieipebmkebaaQP7
set_option linter.unusedVariables false
set_option linter.unusedSimpArgs false
namespace Go.Q
open Go.Proofs
set_option linter.unusedVariables false
set_option maxRecDepth 100000
attribute [local irreducible] wpList OK Code.wp
set_option maxHeartbeats 4000000 in
theorem reach_c {E w : World} {R : List Hp} (hH : Has E w [R]) {v : Value} {l : List (Int × Int)} (hv : Sl R 2 v l.length (l.flatMap tmC)) (hl : l.length ≤ 1000) {vf : Value} {fr : List Int} (hf : Ints R vf fr) :
    Calls Try.prog 12 #[v, vf] w fun e w' => ∃ v' hs', e = .returned v' ∧ Own 3 1 v' (reachS l fr).length ((reachS l fr).map iV) hs' ∧ Has E w' [hs', R] := by
  have hn_ := hv.le
  have hnf := hf.le
  refine c_enter (args := [v, vf]) Try.func12 rfl Try.ntmps12 (by simp) ?_
  refine wp_seq_k fun K1 hK1 => ?_
  refine c_region ?_
  refine s_op (o_assign (v := (.slice none 0 0)) rfl ?_)
  refine s_nil ?_
  refine t_norm (hK1 _ _ ?_)
  refine wp_seq_k fun K2 hK2 => ?_
  refine c_region ?_
  refine s_op (o_alloc (cs := #[(.slice none 0 0)]) ti45 rfl hH fun b3 w4 hH5 => ?_)
  refine s_nil ?_
  refine t_norm (hK2 _ _ ?_)
  refine wp_seq_k fun K6 hK6 => ?_
  refine wp_seq_k fun K7 hK7 => ?_
  refine c_region ?_
  refine s_op (o_move (v := v) rfl ?_)
  refine s_op (o_move (v := vf) rfl ?_)
  refine s_op (o_callf (vs := #[v, vf]) ca10 rfl (args2 rfl rfl) (next_c hH5.all (l := l) (hv.mono (seg_sub 1 rfl)) (by omega) (fr := fr) (hf.mono (seg_sub 1 rfl))) ?_)
  rintro _ w13 ⟨v8, s9, rfl, ho10, hX11⟩
  refine ⟨_, rfl, ?_⟩
  have hH12 : Has E w13 [s9, [Hp.one b3 (.cells #[(.slice none 0 0)] 45 (0, 0))], R] := hX11.of_all1
  refine s_op (o_assign (v := v8) rfl ?_)
  refine s_nil ?_
  refine t_norm (hK7 _ _ ?_)
  refine wp_block ?_
  let I15 : Nat → (Nat → Value) → World → Prop := fun n__ r__ w__ => ∃ (va : Value) (ha : List Hp) (cur : List Int) (vt : Value) (ht : List Hp) (td : List Int), n__ = rmeas l cur.length td.length ∧ Has E w__ [ht, ha, [Hp.one b3 (.cells #[va] 45 (0, 0))], R] ∧ (Own 3 1 va cur.length (cur.map iV) ha) ∧ (OwnW 3 vt td.length (td.map iV) ht) ∧ (RI l fr cur td) ∧ (rmeas l cur.length td.length ≤ 1002000) ∧ r__ 0 = v ∧ r__ 1 = vf ∧ r__ 4 = (.slice none 0 0) ∧ r__ 5 = (.pointer (some ⟨b3, 0, none⟩)) ∧ r__ 6 = vt
  have hH16 : Has E w13 [s9, [], [Hp.one b3 (.cells #[(.slice none 0 0)] 45 (0, 0))], R] := ((Has.nil ((hH12.front 2 rfl).front 2 rfl)).front 3 rfl).first 4 rfl
  refine c_loop I15 _ ⟨(.slice none 0 0), [], [], v8, s9, (nextS l fr), rfl, hH16, Own.nil 3 1, OwnW.of ho10, RI.start l fr, rm_start hl fr, rfl, rfl, rfl, rfl, rfl⟩ ?_
  rintro n_ r19 w17 ⟨va, ha, cur, vt, ht, td, rfl, hH18, hoa, hwt, hri, hrm, e14_0, e14_1, e14_4, e14_5, e14_6⟩
  have hcl := hri.len
  have htl := rm_le l cur.length td.length
  refine wp_seq_k fun K20 hK20 => ?_
  refine wp_seq_k fun K21 hK21 => ?_
  refine c_region ?_
  refine s_op (o_move (v := vt) e14_6 ?_)
  refine s_op (o_lenS Try.underlying23 rfl hwt.sl ?_)
  refine s_op (o_gtr (a := ((td.length : Nat) : Int)) (b := 0) rfl rfl ?_)
  refine s_nil ?_
  refine t_norm (hK21 _ _ ?_)
  refine c_cond rfl (fun h22 => ?_) (fun h22 => ?_)
  · -- 0 < ((td.length : Nat) : Int)
    obtain ⟨x0, hx0⟩ : ∃ x_, td[((0 : Int)).toNat]? = some x_ := get_some (by omega)
    have hx0_ : td[0]? = some x0 := hx0
    have hnl := nextS_len l [x0]
    refine wp_skip ?_
    refine t_norm (hK20 _ _ ?_)
    refine wp_seq_k fun K23 hK23 => ?_
    refine wp_block ?_
    refine wp_seq_k fun K24 hK24 => ?_
    refine c_region ?_
    refine s_op (o_move (v := vt) e14_6 ?_)
    refine s_op (o_index1 Try.underlying23 ti3 rfl hwt.sl rfl (by omega) hx0 fun b25 o26 hc27 => ?_)
    refine s_op (o_load1 (v := (.int .i64 x0)) Try.underlying3 rfl rfl hH18 (seg_sub 0 rfl) hc27 ?_)
    refine s_op (o_buildSlice (ps := #[(0, (.int .i64 x0))]) (cells := #[(.int .i64 x0)]) Try.underlying23 ti3 (by decide) (parts1 rfl) (by kernel_rfl) hH18 fun b28 w29 hH30 => ?_)
    refine s_op (o_callf (vs := #[(.pointer (some ⟨b3, 0, none⟩)), (.slice (some ⟨b28, 0, none⟩) 1 1)]) ca22 rfl (args2 e14_5 rfl) (add_c ((hH30.front 3 rfl).front 3 rfl).all2 hoa hri.sorted ((sl_lit (f := iV) (l := [x0]) rfl rfl (by simp)).mono (seg_sub 0 rfl)) (by simp only [List.length_cons, List.length_nil]; omega)) ?_)
    rintro _ w40 ⟨v31, s32, now33, rfl, ho34, hso35, hm36, hX38⟩
    refine ⟨_, rfl, ?_⟩
    have hH39 : Has E w40 [s32, [Hp.one b3 (.cells #[v31] 45 (0, 0))], [Hp.one b28 (.cells #[(.int .i64 x0)] 3 (0, 0))], ht, R] := hX38.of_all2
    obtain rfl := set_with hri.sorted hso35 hm36
    refine s_op (o_gtr (a := ((withS x0 false cur).length : Int) - (cur.length : Int)) (b := 0) rfl rfl ?_)
    refine s_nil ?_
    refine t_norm (hK24 _ _ ?_)
    refine c_cond rfl (fun h41 => ?_) (fun h41 => ?_)
    · -- 0 < ((withS x0 false cur).length : Int) - (cur.length : Int)
      refine c_region ?_
      refine s_op (o_move (v := vt) e14_6 ?_)
      refine s_op (o_move (v := v) e14_0 ?_)
      refine s_op (o_move (v := vt) e14_6 ?_)
      refine s_op (o_index1 Try.underlying23 ti3 rfl hwt.sl rfl (by omega) hx0 fun b42 o43 hc44 => ?_)
      refine s_op (o_load1 (v := (.int .i64 x0)) Try.underlying3 rfl rfl hH39 (seg_sub 3 rfl) hc44 ?_)
      refine s_op (o_buildSlice (ps := #[(0, (.int .i64 x0))]) (cells := #[(.int .i64 x0)]) Try.underlying23 ti3 (by decide) (parts1 rfl) (by kernel_rfl) hH39 fun b45 w46 hH47 => ?_)
      refine s_op (o_callf (vs := #[v, (.slice (some ⟨b45, 0, none⟩) 1 1)]) ca10 rfl (args2 rfl rfl) (next_c hH47.all (l := l) (hv.mono (seg_sub 5 rfl)) (by omega) (fr := [x0]) ((sl_lit (f := iV) (l := [x0]) rfl rfl (by simp)).mono (seg_sub 0 rfl))) ?_)
      rintro _ w53 ⟨v48, s49, rfl, ho50, hX51⟩
      refine ⟨_, rfl, ?_⟩
      have hH52 : Has E w53 [s49, [Hp.one b45 (.cells #[(.int .i64 x0)] 3 (0, 0))], s32, [Hp.one b3 (.cells #[v31] 45 (0, 0))], [Hp.one b28 (.cells #[(.int .i64 x0)] 3 (0, 0))], ht, R] := hX51.of_all1
      refine s_op (o_wappend Try.underlying23 ti3 rfl rfl hwt rfl ho50.sl (hH52.front 5 rfl) (seg_sub 0 rfl) (one_iV _) (by first | omega | (simp; omega)) (by first | omega | (simp; omega)) fun v54 s55 w58 ho56 hH59 => ?_)
      have ho57 : OwnW 3 v54 (td ++ (nextS l [x0])).length ((td ++ (nextS l [x0])).map iV) s55 := by rw [List.length_append, List.map_append]; exact ho56
      refine s_op (o_assign (v := v54) rfl ?_)
      refine s_nil ?_
      refine b_norm ?_
      refine t_norm (hK23 _ _ ?_)
      refine c_region ?_
      refine s_op (o_move (v := v54) rfl ?_)
      refine s_op (o_wdrop (i := 1) Try.underlying23 ti3 rfl ho57 rfl (by omega) (by first | omega | (simp only [List.length_append]; omega)) fun v60 ho61 => ?_)
      have ho62 : OwnW 3 v60 ((td ++ (nextS l [x0])).drop 1).length (((td ++ (nextS l [x0])).drop 1).map iV) s55 := by rw [List.length_drop, List.map_drop]; exact ho61
      refine s_op (o_assign (v := v60) rfl ?_)
      refine s_nil ?_
      have hH63 : Has E w58 [s55, s32, [Hp.one b3 (.cells #[v31] 45 (0, 0))], R] := ((((hH59.front 6 rfl).front 5 rfl).front 5 rfl).front 3 rfl).first 4 rfl
      refine t_norm ⟨rmeas l (withS x0 false cur).length ((td ++ (nextS l [x0])).drop 1).length, _, rfl, ?_, ?_⟩
      · first | exact (hri.lower hx0_).1 | exact (hri.lower hx0_).2 (by assumption)
      · exact ⟨v31, s32, (withS x0 false cur), v60, s55, ((td ++ (nextS l [x0])).drop 1), rfl, hH63, (ho34), (ho62), (hri.new hx0_), (Nat.le_trans (Nat.le_of_lt ((hri.lower hx0_).2 h41)) hrm), e14_0, e14_1, e14_4, e14_5, rfl⟩
    · -- not: 0 < ((withS x0 false cur).length : Int) - (cur.length : Int)
      refine wp_skip ?_
      refine b_norm ?_
      refine t_norm (hK23 _ _ ?_)
      refine c_region ?_
      refine s_op (o_move (v := vt) e14_6 ?_)
      refine s_op (o_wdrop (i := 1) Try.underlying23 ti3 rfl hwt rfl (by omega) (by first | omega | (simp only [List.length_append]; omega)) fun v64 ho65 => ?_)
      have ho66 : OwnW 3 v64 (td.drop 1).length ((td.drop 1).map iV) ht := by rw [List.length_drop, List.map_drop]; exact ho65
      refine s_op (o_assign (v := v64) rfl ?_)
      refine s_nil ?_
      have hH67 : Has E w40 [ht, s32, [Hp.one b3 (.cells #[v31] 45 (0, 0))], R] := ((((hH39.front 4 rfl).front 2 rfl).front 2 rfl).front 4 rfl).first 4 rfl
      refine t_norm ⟨rmeas l (withS x0 false cur).length (td.drop 1).length, _, rfl, ?_, ?_⟩
      · first | exact (hri.lower hx0_).1 | exact (hri.lower hx0_).2 (by assumption)
      · exact ⟨v31, s32, (withS x0 false cur), v64, ht, (td.drop 1), rfl, hH67, (ho34), (ho66), (hri.old hx0_ h41), (Nat.le_trans (Nat.le_of_lt ((hri.lower hx0_).1)) hrm), e14_0, e14_1, e14_4, e14_5, rfl⟩
  · -- not: 0 < ((td.length : Nat) : Int)
    have hdone := hri.done (by omega)
    refine wp_exit ?_
    refine t_exit (t_exit (x_in (?_)))
    refine t_norm (hK6 _ _ ?_)
    refine wp_seq_k fun K68 hK68 => ?_
    refine c_region ?_
    refine s_op (o_callf (vs := #[(.pointer (some ⟨b3, 0, none⟩))]) ca23 rfl (args1 e14_5) (list_o ((hH18.front 2 rfl).front 2 rfl).all2 hoa hri.sorted (by omega)) ?_)
    rintro _ w74 ⟨v69, s70, rfl, hv71, hX72⟩
    refine ⟨_, rfl, ?_⟩
    have hH73 : Has E w74 [s70, ha, [Hp.one b3 (.cells #[va] 45 (0, 0))], ht, R] := hX72.of_all3
    refine s_op (o_assign (v := v69) rfl ?_)
    refine s_nil ?_
    refine t_norm (hK68 _ _ ?_)
    refine wp_ret ?_
    refine c_ret1 Try.results12  (v := v69) rfl ?_
    have hH75 : Has E w74 [s70, R] := ((hH73.front 4 rfl).front 1 rfl).first 2 rfl
    exact ⟨_, _, rfl, by rw [← hdone]; exact hv71, hH75⟩
end Go.Q
