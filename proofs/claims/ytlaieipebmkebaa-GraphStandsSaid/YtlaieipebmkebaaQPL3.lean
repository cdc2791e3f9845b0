/-
  Parts of a walk: what functions of the program compute, each told by a theorem.
-/
import Derived.Test.YtlaieipebmkebaaQPA
set_option linter.unusedVariables false
set_option linter.unusedSimpArgs false
namespace Go.Q
open Go.Proofs
set_option linter.unusedVariables false
set_option maxRecDepth 100000
attribute [local irreducible] wpList OK Code.wp
set_option maxHeartbeats 4000000 in
theorem GraphStands_c {E w : World} {R : List Hp} (hH : Has E w [R]) {v : Value} {l : List (Int × Int)} (hv : Sl R 2 v l.length (l.flatMap tmC)) (a to : Int) :
    Calls Try.prog 5 #[v, (.int .i64 a), (.int .i64 to)] w fun e w' => e = .returned (.bool true) ∧ Has E w' [R] := by
  have hn_ := hv.le
  refine c_enter (args := [v, (.int .i64 a), (.int .i64 to)]) Try.func5 rfl Try.ntmps5 (by simp) ?_
  refine wp_seq_k fun K1 hK1 => ?_
  refine c_region ?_
  refine s_op (o_assign (v := (.bool false)) rfl ?_)
  refine s_nil ?_
  refine t_norm (hK1 _ _ ?_)
  refine wp_seq_k fun K2 hK2 => ?_
  refine wp_seq_k fun K3 hK3 => ?_
  refine c_region ?_
  refine s_op (o_move (v := v) rfl ?_)
  refine s_op (o_lenS Try.underlying22 rfl hv ?_)
  refine s_op (o_gtr (a := ((l.length : Nat) : Int)) (b := 40) rfl rfl ?_)
  refine s_nil ?_
  refine t_norm (hK3 _ _ ?_)
  refine c_cond rfl (fun h4 => ?_) (fun h4 => ?_)
  · -- 40 < ((l.length : Nat) : Int)
    refine wp_seq_k fun K5 hK5 => ?_
    refine c_region ?_
    refine s_op (o_callf (vs := #[]) ca8 rfl (args0) (awake15_c hH.all) ?_)
    rintro _ w8 ⟨rfl, hX6⟩
    refine ⟨_, rfl, ?_⟩
    have hH7 := hX6.of_all
    refine s_op (o_assign (v := (.bool true)) rfl ?_)
    refine s_nil ?_
    refine t_norm (hK5 _ _ ?_)
    refine wp_ret ?_
    refine t_ret (c_ret1 Try.results5  (v := (.bool true)) rfl ?_)
    exact ⟨rfl, hH7⟩
  · -- not: 40 < ((l.length : Nat) : Int)
    have hl40 : l.length ≤ 40 := by omega
    refine wp_skip ?_
    refine t_norm (hK2 _ _ ?_)
    refine wp_seq_k fun K9 hK9 => ?_
    refine c_region ?_
    refine s_op (o_move (v := v) rfl ?_)
    refine s_op (o_move (v := (.int .i64 a)) rfl ?_)
    refine s_op (o_move (v := (.int .i64 to)) rfl ?_)
    refine s_op (o_callf (vs := #[v, (.int .i64 a), (.int .i64 to)]) ca16 rfl (args3 rfl rfl rfl) (way_c hH.all (l := l) (hv.mono (seg_sub 0 rfl)) (by first | omega | decide) a to) ?_)
    rintro _ w16 ⟨v10, s11, rfl, ho12, hX14⟩
    refine ⟨_, rfl, ?_⟩
    have hH15 : Has E w16 [s11, R] := hX14.of_all1
    have hwl13 := rway_le l a to
    refine s_op (o_assign (v := v10) rfl ?_)
    refine s_nil ?_
    refine t_norm (hK9 _ _ ?_)
    refine wp_seq_k fun K17 hK17 => ?_
    refine wp_seq_k fun K18 hK18 => ?_
    refine c_region ?_
    refine s_op (o_assign (v := (.int .i64 0)) rfl ?_)
    refine s_nil ?_
    refine t_norm (hK18 _ _ ?_)
    refine wp_block ?_
    let I20 : Nat → (Nat → Value) → World → Prop := fun n__ r__ w__ => ∃ (i : Nat), n__ = (rwayS l a to).length - i ∧ Has E w__ [s11, R] ∧ (i ≤ (rwayS l a to).length) ∧ r__ 0 = v ∧ r__ 1 = (.int .i64 a) ∧ r__ 2 = (.int .i64 to) ∧ r__ 7 = v10 ∧ r__ 8 = (.int .i64 (i : Int)) ∧ r__ 15 = (.bool (decide (40 < ((l.length : Nat) : Int))))
    refine c_loop I20 _ ⟨0, rfl, hH15, Nat.zero_le _, rfl, rfl, rfl, rfl, rfl, rfl⟩ ?_
    rintro n_ r23 w21 ⟨i, rfl, hH22, hi, e19_0, e19_1, e19_2, e19_7, e19_8, e19_15⟩
    refine wp_seq_k fun K24 hK24 => ?_
    refine wp_seq_k fun K25 hK25 => ?_
    refine c_region ?_
    refine s_op (o_move (v := (.int .i64 (i : Int))) e19_8 ?_)
    refine s_op (o_move (v := v10) e19_7 ?_)
    refine s_op (o_lenS Try.underlying23 rfl ho12 ?_)
    refine s_op (o_lss (a := (i : Int)) (b := (((rwayS l a to).length : Nat) : Int)) rfl rfl ?_)
    refine s_nil ?_
    refine t_norm (hK25 _ _ ?_)
    refine c_cond rfl (fun h26 => ?_) (fun h26 => ?_)
    · -- (i : Int) < (((rwayS l a to).length : Nat) : Int)
      refine wp_skip ?_
      refine t_norm (hK24 _ _ ?_)
      refine wp_seq_k fun K27 hK27 => ?_
      refine wp_block ?_
      refine wp_seq_k fun K28 hK28 => ?_
      refine c_region ?_
      refine s_op (o_move (v := (.int .i64 to)) e19_2 ?_)
      refine s_op (o_assign (v := (.int .i64 to)) rfl ?_)
      refine s_nil ?_
      refine t_norm (hK28 _ _ ?_)
      refine wp_seq_k fun K29 hK29 => ?_
      refine wp_seq_k fun K30 hK30 => ?_
      refine c_region ?_
      refine s_op (o_move (v := (.int .i64 (i : Int))) e19_8 ?_)
      refine s_op (o_add (a := (i : Int)) (b := 1) rfl rfl (w64 (by omega) (by omega)) ?_)
      refine s_op (o_move (v := v10) e19_7 ?_)
      refine s_op (o_lenS Try.underlying23 rfl ho12 ?_)
      refine s_op (o_lss (a := (i : Int) + 1) (b := (((rwayS l a to).length : Nat) : Int)) rfl rfl ?_)
      refine s_nil ?_
      refine t_norm (hK30 _ _ ?_)
      refine c_cond rfl (fun h31 => ?_) (fun h31 => ?_)
      · -- (i : Int) + 1 < (((rwayS l a to).length : Nat) : Int)
        refine c_region ?_
        refine s_op (o_move (v := v10) e19_7 ?_)
        refine s_op (o_move (v := (.int .i64 (i : Int))) e19_8 ?_)
        refine s_op (o_add (a := (i : Int)) (b := 1) rfl rfl (w64 (by omega) (by omega)) ?_)
        obtain ⟨x35, hx36⟩ : ∃ x_, (rwayS l a to)[((i : Int) + 1).toNat]? = some x_ := get_some (by omega)
        refine s_op (o_index1 Try.underlying23 ti3 rfl ho12 rfl (by omega) hx36 fun b32 o33 hc34 => ?_)
        refine s_op (o_load1 (v := (.int .i64 x35)) Try.underlying3 rfl rfl hH22 (seg_sub 0 rfl) hc34 ?_)
        refine s_op (o_assign (v := (.int .i64 x35)) rfl ?_)
        refine s_nil ?_
        refine t_norm (hK29 _ _ ?_)
        refine wp_seq_k fun K37 hK37 => ?_
        refine c_region ?_
        refine s_op (o_move (v := v) e19_0 ?_)
        refine s_op (o_move (v := v10) e19_7 ?_)
        refine s_op (o_move (v := (.int .i64 (i : Int))) e19_8 ?_)
        obtain ⟨x41, hx42⟩ : ∃ x_, (rwayS l a to)[((i : Int)).toNat]? = some x_ := get_some (by omega)
        refine s_op (o_index1 Try.underlying23 ti3 rfl ho12 rfl (by omega) hx42 fun b38 o39 hc40 => ?_)
        refine s_op (o_load1 (v := (.int .i64 x41)) Try.underlying3 rfl rfl hH22 (seg_sub 0 rfl) hc40 ?_)
        refine s_op (o_buildSlice (ps := #[(0, (.int .i64 x41))]) (cells := #[(.int .i64 x41)]) Try.underlying23 ti3 (by decide) (parts1 rfl) (by kernel_rfl) hH22 fun b43 w44 hH45 => ?_)
        refine s_op (o_callf (vs := #[v, (.slice (some ⟨b43, 0, none⟩) 1 1)]) ca10 rfl (args2 rfl rfl) (next_c hH45.all (l := l) (hv.mono (seg_sub 2 rfl)) (by omega) (fr := [x41]) ((sl_lit (f := iV) (l := [x41]) rfl rfl (by simp)).mono (seg_sub 0 rfl))) ?_)
        rintro _ w51 ⟨v46, s47, rfl, ho48, hX49⟩
        refine ⟨_, rfl, ?_⟩
        have hH50 : Has E w51 [s47, [Hp.one b43 (.cells #[(.int .i64 x41)] 3 (0, 0))], s11, R] := hX49.of_all1
        refine s_op (o_move (v := (.int .i64 x35)) rfl ?_)
        refine s_op (o_callf (vs := #[v46, (.int .i64 x35)]) ca20 rfl (args2 rfl rfl) (refhas_c hH50.all (l := (nextS l [x41])) (ho48.sl.mono (seg_sub 0 rfl)) x35) ?_)
        rintro _ w54 ⟨rfl, hX52⟩
        refine ⟨_, rfl, ?_⟩
        have hH53 := hX52.of_all
        refine s_op (o_not2 (b := decide (x35 ∈ (nextS l [x41]))) (b' := decide (¬ (x35 ∈ (nextS l [x41])))) rfl not_dec ?_)
        refine s_op (o_move (v := (.bool (decide (¬ (x35 ∈ (nextS l [x41])))))) rfl ?_)
        by_cases h55 : ¬ (x35 ∈ (nextS l [x41]))
        · -- ¬ (x35 ∈ (nextS l [x41]))
          exact absurd (way_next (show (rwayS l a to)[i]? = some _ from hx42) (show (rwayS l a to)[i + 1]? = some _ from hx36)) h55
        · -- not: ¬ (x35 ∈ (nextS l [x41]))
          refine s_on 48 rfl (congrArg Value.bool (decide_eq_false h55)) (o_move (v := (.int .i64 (i : Int))) e19_8 ?_)
          refine s_on 48 rfl (congrArg Value.bool (decide_eq_false h55)) (o_eql (a := (i : Int)) (b := 0) rfl rfl ?_)
          refine s_on 48 rfl (congrArg Value.bool (decide_eq_false h55)) (o_move (v := (.bool (decide ((i : Int) = 0)))) rfl ?_)
          by_cases h56 : (i : Int) = 0
          · -- (i : Int) = 0
            refine s_on 51 rfl (congrArg Value.bool (decide_eq_true h56)) (o_move (v := v10) e19_7 ?_)
            obtain ⟨x60, hx61⟩ : ∃ x_, (rwayS l a to)[((0 : Int)).toNat]? = some x_ := get_some (by omega)
            refine s_on 51 rfl (congrArg Value.bool (decide_eq_true h56)) (o_index1 Try.underlying23 ti3 rfl ho12 rfl (by omega) hx61 fun b57 o58 hc59 => ?_)
            refine s_on 51 rfl (congrArg Value.bool (decide_eq_true h56)) (o_load1 (v := (.int .i64 x60)) Try.underlying3 rfl rfl hH53 (seg_sub 2 rfl) hc59 ?_)
            refine s_on 51 rfl (congrArg Value.bool (decide_eq_true h56)) (o_move (v := (.int .i64 a)) e19_1 ?_)
            refine s_on 51 rfl (congrArg Value.bool (decide_eq_true h56)) (o_neq (a := x60) (b := a) rfl rfl ?_)
            refine s_on 48 rfl (congrArg Value.bool (decide_eq_false h55)) (o_pick_t (u := (.bool (decide (x60 ≠ a)))) ((rfl : _ = _).trans (congrArg Value.bool (decide_eq_true h56))) rfl ?_)
            refine s_op (o_pick_f (u := (.bool (decide (x60 ≠ a)))) ((rfl : _ = _).trans (congrArg Value.bool (decide_eq_false h55))) rfl ?_)
            refine s_nil ?_
            refine t_norm (hK37 _ _ ?_)
            refine c_cond rfl (fun h62 => ?_) (fun h62 => ?_)
            · -- x60 ≠ a
              exact absurd (way_first (show (rwayS l a to)[0]? = some _ from hx61)) h62
            · -- not: x60 ≠ a
              refine wp_skip ?_
              refine b_norm ?_
              refine t_norm (hK27 _ _ ?_)
              refine c_region ?_
              refine s_op (o_move (v := (.int .i64 (i : Int))) e19_8 ?_)
              refine s_op (o_add (a := (i : Int)) (b := 1) rfl rfl (w64 (by omega) (by omega)) ?_)
              refine s_op (o_assign (v := (.int .i64 ((i : Int) + 1))) rfl ?_)
              refine s_nil ?_
              have hH63 : Has E w54 [s11, R] := ((hH53.front 3 rfl).front 3 rfl).first 2 rfl
              refine t_norm ⟨(rwayS l a to).length - (i + 1), _, rfl, ?_, ?_⟩
              · omega
              · exact ⟨(i + 1), rfl, hH63, (by omega), e19_0, e19_1, e19_2, e19_7, rfl, e19_15⟩
          · -- not: (i : Int) = 0
            refine s_off (b' := false) 51 rfl (congrArg Value.bool (decide_eq_false h56)) rfl ?_
            refine s_off (b' := false) 51 rfl (congrArg Value.bool (decide_eq_false h56)) rfl ?_
            refine s_off (b' := false) 51 rfl (congrArg Value.bool (decide_eq_false h56)) rfl ?_
            refine s_off (b' := false) 51 rfl (congrArg Value.bool (decide_eq_false h56)) rfl ?_
            refine s_off (b' := false) 51 rfl (congrArg Value.bool (decide_eq_false h56)) rfl ?_
            refine s_on 48 rfl (congrArg Value.bool (decide_eq_false h55)) (o_pick_f (u := (.bool false)) ((rfl : _ = _).trans (congrArg Value.bool (decide_eq_false h56))) rfl ?_)
            refine s_op (o_pick_f (u := (.bool false)) ((rfl : _ = _).trans (congrArg Value.bool (decide_eq_false h55))) rfl ?_)
            refine s_nil ?_
            refine t_norm (hK37 _ _ ?_)
            refine c_false rfl rfl ?_
            refine wp_skip ?_
            refine b_norm ?_
            refine t_norm (hK27 _ _ ?_)
            refine c_region ?_
            refine s_op (o_move (v := (.int .i64 (i : Int))) e19_8 ?_)
            refine s_op (o_add (a := (i : Int)) (b := 1) rfl rfl (w64 (by omega) (by omega)) ?_)
            refine s_op (o_assign (v := (.int .i64 ((i : Int) + 1))) rfl ?_)
            refine s_nil ?_
            have hH64 : Has E w54 [s11, R] := ((hH53.front 3 rfl).front 3 rfl).first 2 rfl
            refine t_norm ⟨(rwayS l a to).length - (i + 1), _, rfl, ?_, ?_⟩
            · omega
            · exact ⟨(i + 1), rfl, hH64, (by omega), e19_0, e19_1, e19_2, e19_7, rfl, e19_15⟩
      · -- not: (i : Int) + 1 < (((rwayS l a to).length : Nat) : Int)
        refine wp_skip ?_
        refine t_norm (hK29 _ _ ?_)
        refine wp_seq_k fun K65 hK65 => ?_
        refine c_region ?_
        refine s_op (o_move (v := v) e19_0 ?_)
        refine s_op (o_move (v := v10) e19_7 ?_)
        refine s_op (o_move (v := (.int .i64 (i : Int))) e19_8 ?_)
        obtain ⟨x69, hx70⟩ : ∃ x_, (rwayS l a to)[((i : Int)).toNat]? = some x_ := get_some (by omega)
        refine s_op (o_index1 Try.underlying23 ti3 rfl ho12 rfl (by omega) hx70 fun b66 o67 hc68 => ?_)
        refine s_op (o_load1 (v := (.int .i64 x69)) Try.underlying3 rfl rfl hH22 (seg_sub 0 rfl) hc68 ?_)
        refine s_op (o_buildSlice (ps := #[(0, (.int .i64 x69))]) (cells := #[(.int .i64 x69)]) Try.underlying23 ti3 (by decide) (parts1 rfl) (by kernel_rfl) hH22 fun b71 w72 hH73 => ?_)
        refine s_op (o_callf (vs := #[v, (.slice (some ⟨b71, 0, none⟩) 1 1)]) ca10 rfl (args2 rfl rfl) (next_c hH73.all (l := l) (hv.mono (seg_sub 2 rfl)) (by omega) (fr := [x69]) ((sl_lit (f := iV) (l := [x69]) rfl rfl (by simp)).mono (seg_sub 0 rfl))) ?_)
        rintro _ w79 ⟨v74, s75, rfl, ho76, hX77⟩
        refine ⟨_, rfl, ?_⟩
        have hH78 : Has E w79 [s75, [Hp.one b71 (.cells #[(.int .i64 x69)] 3 (0, 0))], s11, R] := hX77.of_all1
        refine s_op (o_move (v := (.int .i64 to)) rfl ?_)
        refine s_op (o_callf (vs := #[v74, (.int .i64 to)]) ca20 rfl (args2 rfl rfl) (refhas_c hH78.all (l := (nextS l [x69])) (ho76.sl.mono (seg_sub 0 rfl)) to) ?_)
        rintro _ w82 ⟨rfl, hX80⟩
        refine ⟨_, rfl, ?_⟩
        have hH81 := hX80.of_all
        refine s_op (o_not2 (b := decide (to ∈ (nextS l [x69]))) (b' := decide (¬ (to ∈ (nextS l [x69])))) rfl not_dec ?_)
        refine s_op (o_move (v := (.bool (decide (¬ (to ∈ (nextS l [x69])))))) rfl ?_)
        by_cases h83 : ¬ (to ∈ (nextS l [x69]))
        · -- ¬ (to ∈ (nextS l [x69]))
          exact absurd (way_end (show (rwayS l a to)[i]? = some _ from hx70) (by omega)) h83
        · -- not: ¬ (to ∈ (nextS l [x69]))
          refine s_on 48 rfl (congrArg Value.bool (decide_eq_false h83)) (o_move (v := (.int .i64 (i : Int))) e19_8 ?_)
          refine s_on 48 rfl (congrArg Value.bool (decide_eq_false h83)) (o_eql (a := (i : Int)) (b := 0) rfl rfl ?_)
          refine s_on 48 rfl (congrArg Value.bool (decide_eq_false h83)) (o_move (v := (.bool (decide ((i : Int) = 0)))) rfl ?_)
          by_cases h84 : (i : Int) = 0
          · -- (i : Int) = 0
            refine s_on 51 rfl (congrArg Value.bool (decide_eq_true h84)) (o_move (v := v10) e19_7 ?_)
            obtain ⟨x88, hx89⟩ : ∃ x_, (rwayS l a to)[((0 : Int)).toNat]? = some x_ := get_some (by omega)
            refine s_on 51 rfl (congrArg Value.bool (decide_eq_true h84)) (o_index1 Try.underlying23 ti3 rfl ho12 rfl (by omega) hx89 fun b85 o86 hc87 => ?_)
            refine s_on 51 rfl (congrArg Value.bool (decide_eq_true h84)) (o_load1 (v := (.int .i64 x88)) Try.underlying3 rfl rfl hH81 (seg_sub 2 rfl) hc87 ?_)
            refine s_on 51 rfl (congrArg Value.bool (decide_eq_true h84)) (o_move (v := (.int .i64 a)) e19_1 ?_)
            refine s_on 51 rfl (congrArg Value.bool (decide_eq_true h84)) (o_neq (a := x88) (b := a) rfl rfl ?_)
            refine s_on 48 rfl (congrArg Value.bool (decide_eq_false h83)) (o_pick_t (u := (.bool (decide (x88 ≠ a)))) ((rfl : _ = _).trans (congrArg Value.bool (decide_eq_true h84))) rfl ?_)
            refine s_op (o_pick_f (u := (.bool (decide (x88 ≠ a)))) ((rfl : _ = _).trans (congrArg Value.bool (decide_eq_false h83))) rfl ?_)
            refine s_nil ?_
            refine t_norm (hK65 _ _ ?_)
            refine c_cond rfl (fun h90 => ?_) (fun h90 => ?_)
            · -- x88 ≠ a
              exact absurd (way_first (show (rwayS l a to)[0]? = some _ from hx89)) h90
            · -- not: x88 ≠ a
              refine wp_skip ?_
              refine b_norm ?_
              refine t_norm (hK27 _ _ ?_)
              refine c_region ?_
              refine s_op (o_move (v := (.int .i64 (i : Int))) e19_8 ?_)
              refine s_op (o_add (a := (i : Int)) (b := 1) rfl rfl (w64 (by omega) (by omega)) ?_)
              refine s_op (o_assign (v := (.int .i64 ((i : Int) + 1))) rfl ?_)
              refine s_nil ?_
              have hH91 : Has E w82 [s11, R] := ((hH81.front 3 rfl).front 3 rfl).first 2 rfl
              refine t_norm ⟨(rwayS l a to).length - (i + 1), _, rfl, ?_, ?_⟩
              · omega
              · exact ⟨(i + 1), rfl, hH91, (by omega), e19_0, e19_1, e19_2, e19_7, rfl, e19_15⟩
          · -- not: (i : Int) = 0
            refine s_off (b' := false) 51 rfl (congrArg Value.bool (decide_eq_false h84)) rfl ?_
            refine s_off (b' := false) 51 rfl (congrArg Value.bool (decide_eq_false h84)) rfl ?_
            refine s_off (b' := false) 51 rfl (congrArg Value.bool (decide_eq_false h84)) rfl ?_
            refine s_off (b' := false) 51 rfl (congrArg Value.bool (decide_eq_false h84)) rfl ?_
            refine s_off (b' := false) 51 rfl (congrArg Value.bool (decide_eq_false h84)) rfl ?_
            refine s_on 48 rfl (congrArg Value.bool (decide_eq_false h83)) (o_pick_f (u := (.bool false)) ((rfl : _ = _).trans (congrArg Value.bool (decide_eq_false h84))) rfl ?_)
            refine s_op (o_pick_f (u := (.bool false)) ((rfl : _ = _).trans (congrArg Value.bool (decide_eq_false h83))) rfl ?_)
            refine s_nil ?_
            refine t_norm (hK65 _ _ ?_)
            refine c_false rfl rfl ?_
            refine wp_skip ?_
            refine b_norm ?_
            refine t_norm (hK27 _ _ ?_)
            refine c_region ?_
            refine s_op (o_move (v := (.int .i64 (i : Int))) e19_8 ?_)
            refine s_op (o_add (a := (i : Int)) (b := 1) rfl rfl (w64 (by omega) (by omega)) ?_)
            refine s_op (o_assign (v := (.int .i64 ((i : Int) + 1))) rfl ?_)
            refine s_nil ?_
            have hH92 : Has E w82 [s11, R] := ((hH81.front 3 rfl).front 3 rfl).first 2 rfl
            refine t_norm ⟨(rwayS l a to).length - (i + 1), _, rfl, ?_, ?_⟩
            · omega
            · exact ⟨(i + 1), rfl, hH92, (by omega), e19_0, e19_1, e19_2, e19_7, rfl, e19_15⟩
    · -- not: (i : Int) < (((rwayS l a to).length : Nat) : Int)
      refine wp_exit ?_
      refine t_exit (t_exit (x_in (?_)))
      refine t_norm (hK17 _ _ ?_)
      refine wp_seq_k fun K93 hK93 => ?_
      refine wp_seq_k fun K94 hK94 => ?_
      refine c_region ?_
      refine s_op (o_move (v := v10) e19_7 ?_)
      refine s_op (o_lenS Try.underlying23 rfl ho12 ?_)
      refine s_op (o_gtr (a := (((rwayS l a to).length : Nat) : Int)) (b := 0) rfl rfl ?_)
      refine s_op (o_move (v := v) e19_0 ?_)
      refine s_op (o_move (v := (.int .i64 a)) e19_1 ?_)
      refine s_op (o_buildSlice (ps := #[(0, (.int .i64 a))]) (cells := #[(.int .i64 a)]) Try.underlying23 ti3 (by decide) (parts1 rfl) (by kernel_rfl) hH22 fun b95 w96 hH97 => ?_)
      refine s_op (o_callf (vs := #[v, (.slice (some ⟨b95, 0, none⟩) 1 1)]) ca12 rfl (args2 rfl rfl) (reach_c hH97.all (l := l) (hv.mono (seg_sub 2 rfl)) (by omega) (fr := [a]) ((sl_lit (f := iV) (l := [a]) rfl rfl (by simp)).mono (seg_sub 0 rfl))) ?_)
      rintro _ w103 ⟨v98, s99, rfl, ho100, hX101⟩
      refine ⟨_, rfl, ?_⟩
      have hH102 : Has E w103 [s99, [Hp.one b95 (.cells #[(.int .i64 a)] 3 (0, 0))], s11, R] := hX101.of_all1
      refine s_op (o_move (v := (.int .i64 to)) e19_2 ?_)
      refine s_op (o_callf (vs := #[v98, (.int .i64 to)]) ca20 rfl (args2 rfl rfl) (refhas_c hH102.all (l := (reachS l [a])) (ho100.sl.mono (seg_sub 0 rfl)) to) ?_)
      rintro _ w106 ⟨rfl, hX104⟩
      refine ⟨_, rfl, ?_⟩
      have hH105 := hX104.of_all
      refine s_op (o_neqb Try.underlying4 rfl rfl ?_)
      refine s_nil ?_
      refine t_norm (hK94 _ _ ?_)
      refine c_condb rfl (fun h107 => ?_) (fun h107 => ?_)
      · -- !((decide (0 < (((rwayS l a to).length : Nat) : Int))) == (decide (to ∈ (reachS l [a]))))
        rw [way_reach] at h107; simp at h107
      · -- not: !((decide (0 < (((rwayS l a to).length : Nat) : Int))) == (decide (to ∈ (reachS l [a]))))
        refine wp_skip ?_
        refine t_norm (hK93 _ _ ?_)
        refine wp_seq_k fun K108 hK108 => ?_
        refine c_region ?_
        refine s_op (o_move (v := v) e19_0 ?_)
        refine s_op (o_callf (vs := #[v]) ca19 rfl (args1 rfl) (dead_c hH105.all (l := l) (hv.mono (seg_sub 3 rfl)) (by first | omega | decide)) ?_)
        rintro _ w114 ⟨v109, s110, rfl, ho111, hX112⟩
        refine ⟨_, rfl, ?_⟩
        have hH113 : Has E w114 [s110, s99, [Hp.one b95 (.cells #[(.int .i64 a)] 3 (0, 0))], s11, R] := hX112.of_all1
        refine s_op (o_assign (v := v109) rfl ?_)
        refine s_nil ?_
        refine t_norm (hK108 _ _ ?_)
        refine wp_seq_k fun K115 hK115 => ?_
        refine c_region ?_
        refine s_op (o_assign (v := (.slice none 0 0)) rfl ?_)
        refine s_nil ?_
        refine t_norm (hK115 _ _ ?_)
        refine wp_seq_k fun K116 hK116 => ?_
        refine wp_seq_k fun K117 hK117 => ?_
        refine c_region ?_
        refine s_op (o_assign (v := (.int .i64 0)) rfl ?_)
        refine s_nil ?_
        refine t_norm (hK117 _ _ ?_)
        refine wp_block ?_
        let I119 : Nat → (Nat → Value) → World → Prop := fun n__ r__ w__ => ∃ (k : Nat) (va : Value) (ha : List Hp) (acc : List (Int × Int)), n__ = l.length - k ∧ Has E w__ [ha, s110, R] ∧ (k ≤ l.length) ∧ (Own 42 2 va acc.length (acc.flatMap tmC) ha) ∧ (acc = restS (l.take k) (deadS (goesR l) l)) ∧ (acc.length ≤ k) ∧ r__ 0 = v ∧ r__ 1 = (.int .i64 a) ∧ r__ 2 = (.int .i64 to) ∧ r__ 7 = v10 ∧ r__ 8 = (.int .i64 (i : Int)) ∧ r__ 10 = v109 ∧ r__ 11 = va ∧ r__ 12 = (.int .i64 (k : Int)) ∧ r__ 15 = (.bool (decide (40 < ((l.length : Nat) : Int)))) ∧ r__ 24 = (.bool (decide ((i : Int) < (((rwayS l a to).length : Nat) : Int)))) ∧ r__ 68 = (.bool (!((decide (0 < (((rwayS l a to).length : Nat) : Int))) == (decide (to ∈ (reachS l [a]))))))
        have hH120 : Has E w114 [[], s110, R] := (Has.nil ((hH113.front 4 rfl).front 1 rfl)).first 3 rfl
        refine c_loop I119 _ ⟨0, (.slice none 0 0), [], [], rfl, hH120, Nat.zero_le _, Own.nil 42 2, rfl, Nat.le_refl _, e19_0, e19_1, e19_2, e19_7, e19_8, rfl, rfl, rfl, e19_15, rfl, rfl⟩ ?_
        rintro n_ r123 w121 ⟨k, va, ha, acc, rfl, hH122, hk, hoa, hacc, hal, e118_0, e118_1, e118_2, e118_7, e118_8, e118_10, e118_11, e118_12, e118_15, e118_24, e118_68⟩
        refine wp_seq_k fun K124 hK124 => ?_
        refine wp_seq_k fun K125 hK125 => ?_
        refine c_region ?_
        refine s_op (o_move (v := (.int .i64 (k : Int))) e118_12 ?_)
        refine s_op (o_move (v := v) e118_0 ?_)
        refine s_op (o_lenS Try.underlying22 rfl hv ?_)
        refine s_op (o_lss (a := (k : Int)) (b := ((l.length : Nat) : Int)) rfl rfl ?_)
        refine s_nil ?_
        refine t_norm (hK125 _ _ ?_)
        refine c_cond rfl (fun h126 => ?_) (fun h126 => ?_)
        · -- (k : Int) < ((l.length : Nat) : Int)
          refine wp_skip ?_
          refine t_norm (hK124 _ _ ?_)
          refine wp_seq_k fun K127 hK127 => ?_
          refine wp_block ?_
          refine wp_seq_k fun K128 hK128 => ?_
          refine c_region ?_
          refine s_op (o_move (v := v109) e118_10 ?_)
          refine s_op (o_move (v := v) e118_0 ?_)
          refine s_op (o_move (v := (.int .i64 (k : Int))) e118_12 ?_)
          obtain ⟨x132, hx133⟩ : ∃ x_, l[((k : Int)).toNat]? = some x_ := get_some (by omega)
          refine s_op (o_indexF tmC_len Try.underlying22 ti42 rfl hv rfl rfl (by omega) hx133 fun b129 o130 hc131 => ?_)
          refine s_op (o_fieldAddr (k := o130) (fun _ => by kernel_rfl) rfl ?_)
          refine s_op (o_load1 (v := (.int .i64 x132.1)) Try.underlying3 rfl rfl hH122 (seg_sub 2 rfl) (CellsAt.field (k := 0) (ds := [(.int .i64 x132.1)]) hc131 rfl) ?_)
          refine s_op (o_callf (vs := #[v109, (.int .i64 x132.1)]) ca20 rfl (args2 rfl rfl) (refhas_c hH122.all (l := (deadS (goesR l) l)) (ho111.sl.mono (seg_sub 1 rfl)) x132.1) ?_)
          rintro _ w136 ⟨rfl, hX134⟩
          refine ⟨_, rfl, ?_⟩
          have hH135 := hX134.of_all
          refine s_op (o_not2 (b := decide (x132.1 ∈ (deadS (goesR l) l))) (b' := decide (¬ (x132.1 ∈ (deadS (goesR l) l)))) rfl not_dec ?_)
          refine s_nil ?_
          refine t_norm (hK128 _ _ ?_)
          refine c_cond rfl (fun h137 => ?_) (fun h137 => ?_)
          · -- ¬ (x132.1 ∈ (deadS (goesR l) l))
            refine c_region ?_
            refine s_op (o_move (v := va) e118_11 ?_)
            refine s_op (o_move (v := v) e118_0 ?_)
            refine s_op (o_move (v := (.int .i64 (k : Int))) e118_12 ?_)
            refine s_op (o_indexF tmC_len Try.underlying22 ti42 rfl hv rfl rfl (by omega) hx133 fun b138 o139 hc140 => ?_)
            refine s_op (o_loadN (cs := [(.int .i64 x132.1), (.int .i64 x132.2)]) Try.underlying42 rfl ti42 rfl hH135 (seg_sub 2 rfl) hc140 ?_)
            refine s_op (o_buildSlice (ps := #[(0, (.agg #[(.int .i64 x132.1), (.int .i64 x132.2)]))]) (cells := #[(.int .i64 x132.1), (.int .i64 x132.2)]) Try.underlying22 ti42 (by decide) (parts1 rfl) (by kernel_rfl) hH135 fun b141 w142 hH143 => ?_)
            refine s_op (o_append Try.underlying22 ti42 rfl (by decide) rfl hoa rfl (sl_litF (f := tmC) (l := [(x132.1, x132.2)]) tmC_len rfl rfl (by simp)) (hH143.front 1 rfl) (seg_sub 0 rfl) (one_tm _) (by first | omega | (simp; omega)) (by first | omega | (simp; omega)) fun v144 s145 w147 ho146 hH148 => ?_)
            have ho146 : Own 42 2 v144 (acc ++ [(x132.1, x132.2)]).length ((acc ++ [(x132.1, x132.2)]).flatMap tmC) s145 := ho146.appF
            refine s_op (o_assign (v := v144) rfl ?_)
            refine s_nil ?_
            refine b_norm ?_
            refine t_norm (hK127 _ _ ?_)
            refine c_region ?_
            refine s_op (o_move (v := (.int .i64 (k : Int))) e118_12 ?_)
            refine s_op (o_add (a := (k : Int)) (b := 1) rfl rfl (w64 (by omega) (by omega)) ?_)
            refine s_op (o_assign (v := (.int .i64 ((k : Int) + 1))) rfl ?_)
            refine s_nil ?_
            have hH149 : Has E w147 [s145, s110, R] := (((hH148.front 3 rfl).front 3 rfl).front 2 rfl).first 3 rfl
            refine t_norm ⟨l.length - (k + 1), _, rfl, ?_, ?_⟩
            · omega
            · exact ⟨(k + 1), v144, s145, (acc ++ [(x132.1, x132.2)]), rfl, hH149, (by omega), (ho146), (by rw [rest_step (show l[k]? = some _ from hx133), if_pos h137, ← hacc]), (by first | omega | (rw [List.length_append, List.length_singleton]; omega)), e118_0, e118_1, e118_2, e118_7, e118_8, e118_10, rfl, rfl, e118_15, e118_24, e118_68⟩
          · -- not: ¬ (x132.1 ∈ (deadS (goesR l) l))
            refine wp_skip ?_
            refine b_norm ?_
            refine t_norm (hK127 _ _ ?_)
            refine c_region ?_
            refine s_op (o_move (v := (.int .i64 (k : Int))) e118_12 ?_)
            refine s_op (o_add (a := (k : Int)) (b := 1) rfl rfl (w64 (by omega) (by omega)) ?_)
            refine s_op (o_assign (v := (.int .i64 ((k : Int) + 1))) rfl ?_)
            refine s_nil ?_
            refine t_norm ⟨l.length - (k + 1), _, rfl, ?_, ?_⟩
            · omega
            · exact ⟨(k + 1), va, ha, acc, rfl, hH135, (by omega), (hoa), (by rw [rest_step (show l[k]? = some _ from hx133), if_neg h137, ← hacc]), (by first | omega | (rw [List.length_append, List.length_singleton]; omega)), e118_0, e118_1, e118_2, e118_7, e118_8, e118_10, e118_11, rfl, e118_15, e118_24, e118_68⟩
        · -- not: (k : Int) < ((l.length : Nat) : Int)
          rw [show k = l.length by omega, List.take_length] at hacc
          refine wp_exit ?_
          refine t_exit (t_exit (x_in (?_)))
          refine t_norm (hK116 _ _ ?_)
          refine wp_seq_k fun K150 hK150 => ?_
          refine c_region ?_
          refine s_op (o_move (v := va) e118_11 ?_)
          refine s_op (o_callf (vs := #[va]) ca19 rfl (args1 rfl) (dead_c hH122.all (l := acc) (hoa.sl.mono (seg_sub 0 rfl)) (by first | omega | decide)) ?_)
          rintro _ w156 ⟨v151, s152, rfl, ho153, hX154⟩
          refine ⟨_, rfl, ?_⟩
          have hH155 : Has E w156 [s152, ha, s110, R] := hX154.of_all1
          refine s_op (o_lenS Try.underlying23 rfl ho153.sl ?_)
          refine s_op (o_eql (a := (((deadS (goesR acc) acc).length : Nat) : Int)) (b := 0) rfl rfl ?_)
          refine s_op (o_move (v := (.bool (decide ((((deadS (goesR acc) acc).length : Nat) : Int) = 0)))) rfl ?_)
          by_cases h157 : (((deadS (goesR acc) acc).length : Nat) : Int) = 0
          · -- (((deadS (goesR acc) acc).length : Nat) : Int) = 0
            refine s_on 96 rfl (congrArg Value.bool (decide_eq_true h157)) (o_callf (vs := #[]) ca8 rfl (args0) (awake15_c hH155.all) ?_)
            rintro _ w160 ⟨rfl, hX158⟩
            refine ⟨_, rfl, ?_⟩
            have hH159 := hX158.of_all
            refine s_op (o_pick_t (u := (.bool true)) ((rfl : _ = _).trans (congrArg Value.bool (decide_eq_true h157))) rfl ?_)
            refine s_op (o_assign (v := (.bool true)) rfl ?_)
            refine s_nil ?_
            refine t_norm (hK150 _ _ ?_)
            refine wp_ret ?_
            refine c_ret1 Try.results5  (v := (.bool true)) rfl ?_
            have hH161 : Has E w160 [R] := (hH159.front 3 rfl).first 1 rfl
            exact ⟨rfl, hH161⟩
          · -- not: (((deadS (goesR acc) acc).length : Nat) : Int) = 0
            exfalso; rw [hacc, rest_none] at h157; exact h157 rfl
end Go.Q
