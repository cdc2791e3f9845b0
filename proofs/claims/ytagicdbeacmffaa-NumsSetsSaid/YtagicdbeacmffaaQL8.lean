/-
  Parts of a walk: what functions of the program compute, each told by a theorem.
-/
import Derived.Test.YtagicdbeacmffaaQS9
import Derived.Test.YtagicdbeacmffaaQS8
import Derived.Test.YtagicdbeacmffaaQS5
import Derived.Test.YtagicdbeacmffaaQN1
import Derived.Test.YtagicdbeacmffaaQF2
set_option linter.unusedVariables false
set_option linter.unusedSimpArgs false
namespace Go.Q
open Go.Proofs
set_option linter.unusedVariables false
set_option maxRecDepth 100000
attribute [local irreducible] wpList OK Code.wp
set_option maxHeartbeats 4000000 in
theorem NumsSets_c {E w : World} {R : List Hp} (hH : Has E w [R]) {vf : Value} {first : List Int} (hf : Ints R vf first) {v : Value} {l : List SAct} (hv : Sl R 2 v l.length (l.flatMap saC)) (hok : ∀ a ∈ l, SActOk R a) {va : Value} {ask : List Int} (hask : Ints R va ask) (fr : Int) :
    Calls Try.prog 9 #[vf, v, va, (.int .i64 fr)] w fun e w' => e = .returned (.bool true) ∧ Has E w' [R] := by
  have hnf := hf.le
  have hnl := hv.le
  have hna := hask.le
  refine c_enter (args := [vf, v, va, (.int .i64 fr)]) Try.func9 rfl Try.ntmps9 (by simp) ?_
  refine wp_seq_k fun K1 hK1 => ?_
  refine c_region ?_
  refine s_op (o_assign (v := (.bool false)) rfl ?_)
  refine s_nil ?_
  refine t_norm (hK1 _ _ ?_)
  refine wp_seq_k fun K2 hK2 => ?_
  refine wp_seq_k fun K3 hK3 => ?_
  refine c_region ?_
  refine s_op (o_move (v := vf) rfl ?_)
  refine s_op (o_lenS Try.underlying28 rfl hf ?_)
  refine s_op (o_gtr (a := ((first.length : Nat) : Int)) (b := 40) rfl rfl ?_)
  refine s_op (o_move (v := (.bool (decide (40 < ((first.length : Nat) : Int))))) rfl ?_)
  by_cases h4 : 40 < ((first.length : Nat) : Int)
  · -- 40 < ((first.length : Nat) : Int)
    refine s_off (b' := true) 26 rfl (congrArg Value.bool (decide_eq_true h4)) rfl ?_
    refine s_off (b' := true) 26 rfl (congrArg Value.bool (decide_eq_true h4)) rfl ?_
    refine s_off (b' := true) 26 rfl (congrArg Value.bool (decide_eq_true h4)) rfl ?_
    refine s_op (o_pick_t (u := (.bool true)) ((rfl : _ = _).trans (congrArg Value.bool (decide_eq_true h4))) rfl ?_)
    refine s_op (o_move (v := (.bool true)) rfl ?_)
    refine s_off (b' := true) 31 rfl rfl rfl ?_
    refine s_off (b' := true) 31 rfl rfl rfl ?_
    refine s_off (b' := true) 31 rfl rfl rfl ?_
    refine s_op (o_pick_t (u := (.bool true)) rfl rfl ?_)
    refine s_op (o_move (v := (.bool true)) rfl ?_)
    refine s_off (b' := true) 36 rfl rfl rfl ?_
    refine s_off (b' := true) 36 rfl rfl rfl ?_
    refine s_op (o_pick_t (u := (.bool true)) rfl rfl ?_)
    refine s_nil ?_
    refine t_norm (hK3 _ _ ?_)
    refine c_true rfl rfl ?_
    refine wp_seq_k fun K5 hK5 => ?_
    refine c_region ?_
    refine s_op (o_callf (vs := #[]) ca27 rfl (args0) (awake_c hH.all) ?_)
    rintro _ w8 ⟨rfl, hX6⟩
    refine ⟨_, rfl, ?_⟩
    have hH7 := hX6.of_all
    refine s_op (o_assign (v := (.bool true)) rfl ?_)
    refine s_nil ?_
    refine t_norm (hK5 _ _ ?_)
    refine wp_ret ?_
    refine t_ret (c_ret1 Try.results9  (v := (.bool true)) rfl ?_)
    exact ⟨rfl, hH7⟩
  · -- not: 40 < ((first.length : Nat) : Int)
    refine s_on 26 rfl (congrArg Value.bool (decide_eq_false h4)) (o_move (v := v) rfl ?_)
    refine s_on 26 rfl (congrArg Value.bool (decide_eq_false h4)) (o_lenS Try.underlying56 rfl hv ?_)
    refine s_on 26 rfl (congrArg Value.bool (decide_eq_false h4)) (o_gtr (a := ((l.length : Nat) : Int)) (b := 30) rfl rfl ?_)
    refine s_op (o_pick_f (u := (.bool (decide (30 < ((l.length : Nat) : Int))))) ((rfl : _ = _).trans (congrArg Value.bool (decide_eq_false h4))) rfl ?_)
    refine s_op (o_move (v := (.bool (decide (30 < ((l.length : Nat) : Int))))) rfl ?_)
    by_cases h9 : 30 < ((l.length : Nat) : Int)
    · -- 30 < ((l.length : Nat) : Int)
      refine s_off (b' := true) 31 rfl (congrArg Value.bool (decide_eq_true h9)) rfl ?_
      refine s_off (b' := true) 31 rfl (congrArg Value.bool (decide_eq_true h9)) rfl ?_
      refine s_off (b' := true) 31 rfl (congrArg Value.bool (decide_eq_true h9)) rfl ?_
      refine s_op (o_pick_t (u := (.bool true)) ((rfl : _ = _).trans (congrArg Value.bool (decide_eq_true h9))) rfl ?_)
      refine s_op (o_move (v := (.bool true)) rfl ?_)
      refine s_off (b' := true) 36 rfl rfl rfl ?_
      refine s_off (b' := true) 36 rfl rfl rfl ?_
      refine s_op (o_pick_t (u := (.bool true)) rfl rfl ?_)
      refine s_nil ?_
      refine t_norm (hK3 _ _ ?_)
      refine c_true rfl rfl ?_
      refine wp_seq_k fun K10 hK10 => ?_
      refine c_region ?_
      refine s_op (o_callf (vs := #[]) ca27 rfl (args0) (awake_c hH.all) ?_)
      rintro _ w13 ⟨rfl, hX11⟩
      refine ⟨_, rfl, ?_⟩
      have hH12 := hX11.of_all
      refine s_op (o_assign (v := (.bool true)) rfl ?_)
      refine s_nil ?_
      refine t_norm (hK10 _ _ ?_)
      refine wp_ret ?_
      refine t_ret (c_ret1 Try.results9  (v := (.bool true)) rfl ?_)
      exact ⟨rfl, hH12⟩
    · -- not: 30 < ((l.length : Nat) : Int)
      refine s_on 31 rfl (congrArg Value.bool (decide_eq_false h9)) (o_move (v := va) rfl ?_)
      refine s_on 31 rfl (congrArg Value.bool (decide_eq_false h9)) (o_lenS Try.underlying28 rfl hask ?_)
      refine s_on 31 rfl (congrArg Value.bool (decide_eq_false h9)) (o_gtr (a := ((ask.length : Nat) : Int)) (b := 10) rfl rfl ?_)
      refine s_op (o_pick_f (u := (.bool (decide (10 < ((ask.length : Nat) : Int))))) ((rfl : _ = _).trans (congrArg Value.bool (decide_eq_false h9))) rfl ?_)
      refine s_op (o_move (v := (.bool (decide (10 < ((ask.length : Nat) : Int))))) rfl ?_)
      by_cases h14 : 10 < ((ask.length : Nat) : Int)
      · -- 10 < ((ask.length : Nat) : Int)
        refine s_off (b' := true) 36 rfl (congrArg Value.bool (decide_eq_true h14)) rfl ?_
        refine s_off (b' := true) 36 rfl (congrArg Value.bool (decide_eq_true h14)) rfl ?_
        refine s_op (o_pick_t (u := (.bool true)) ((rfl : _ = _).trans (congrArg Value.bool (decide_eq_true h14))) rfl ?_)
        refine s_nil ?_
        refine t_norm (hK3 _ _ ?_)
        refine c_true rfl rfl ?_
        refine wp_seq_k fun K15 hK15 => ?_
        refine c_region ?_
        refine s_op (o_callf (vs := #[]) ca27 rfl (args0) (awake_c hH.all) ?_)
        rintro _ w18 ⟨rfl, hX16⟩
        refine ⟨_, rfl, ?_⟩
        have hH17 := hX16.of_all
        refine s_op (o_assign (v := (.bool true)) rfl ?_)
        refine s_nil ?_
        refine t_norm (hK15 _ _ ?_)
        refine wp_ret ?_
        refine t_ret (c_ret1 Try.results9  (v := (.bool true)) rfl ?_)
        exact ⟨rfl, hH17⟩
      · -- not: 10 < ((ask.length : Nat) : Int)
        refine s_on 36 rfl (congrArg Value.bool (decide_eq_false h14)) (o_callf (vs := #[]) ca27 rfl (args0) (awake_c hH.all) ?_)
        rintro _ w21 ⟨rfl, hX19⟩
        refine ⟨_, rfl, ?_⟩
        have hH20 := hX19.of_all
        refine s_on 36 rfl (congrArg Value.bool (decide_eq_false h14)) (o_not rfl ?_)
        refine s_op (o_pick_f (u := (.bool false)) ((rfl : _ = _).trans (congrArg Value.bool (decide_eq_false h14))) rfl ?_)
        refine s_nil ?_
        refine t_norm (hK3 _ _ ?_)
        refine c_false rfl rfl ?_
        refine wp_skip ?_
        refine t_norm (hK2 _ _ ?_)
        refine wp_seq_k fun K22 hK22 => ?_
        refine c_region ?_
        refine s_op (o_move (v := vf) rfl ?_)
        refine s_op (o_callf (vs := #[vf]) ca34 rfl (args1 rfl) (of_c hH20.all (l := first) (hf.mono (seg_sub 0 rfl)) (by first | omega | (simp only [List.length_cons, List.length_nil]; omega))) ?_)
        rintro _ w32 ⟨b23, v24, s25, now26, rfl, ho27, hso28, hm29, hX30⟩
        refine ⟨_, rfl, ?_⟩
        have hH31 : Has E w32 [s25, [Hp.one b23 (.cells #[v24] 81 (0, 0))], R] := hX30.of_all2
        refine s_op (o_assign (v := (.pointer (some ⟨b23, 0, none⟩))) rfl ?_)
        refine s_nil ?_
        refine t_norm (hK22 _ _ ?_)
        refine wp_seq_k fun K33 hK33 => ?_
        refine c_region ?_
        refine s_op (o_assign (v := (.slice none 0 0)) rfl ?_)
        refine s_nil ?_
        refine t_norm (hK33 _ _ ?_)
        refine wp_seq_k fun K34 hK34 => ?_
        refine wp_seq_k fun K35 hK35 => ?_
        refine c_region ?_
        refine s_op (o_assign (v := (.int .i64 0)) rfl ?_)
        refine s_nil ?_
        refine t_norm (hK35 _ _ ?_)
        refine wp_block ?_
        let I37 : Nat → (Nat → Value) → World → Prop := fun n__ r__ w__ => ∃ (i0 : Nat) (vw : Value) (hw : List Hp) (wl : List Int), n__ = first.length - i0 ∧ Has E w__ [hw, s25, [Hp.one b23 (.cells #[v24] 81 (0, 0))], R] ∧ (i0 ≤ first.length) ∧ (Own 3 1 vw wl.length (wl.map iV) hw) ∧ (wl.Pairwise (· < ·)) ∧ (∀ a, a ∈ wl ↔ a ∈ first.take i0) ∧ (wl.length ≤ i0) ∧ r__ 0 = vf ∧ r__ 1 = v ∧ r__ 2 = va ∧ r__ 3 = (.int .i64 fr) ∧ r__ 8 = (.bool false) ∧ r__ 9 = (.pointer (some ⟨b23, 0, none⟩)) ∧ r__ 10 = vw ∧ r__ 11 = (.int .i64 (i0 : Int)) ∧ r__ 39 = (.bool false)
        have hH38 : Has E w32 [[], s25, [Hp.one b23 (.cells #[v24] 81 (0, 0))], R] := (Has.nil (((hH31.front 2 rfl).front 2 rfl).front 2 rfl)).first 4 rfl
        refine c_loop I37 _ ⟨0, (.slice none 0 0), [], [], rfl, hH38, Nat.zero_le _, Own.nil 3 1, List.Pairwise.nil, (by simp), (by simp), rfl, rfl, rfl, rfl, rfl, rfl, rfl, rfl, rfl⟩ ?_
        rintro n_ r41 w39 ⟨i0, vw, hw, wl, rfl, hH40, hi0, how, hws, hwm, hwl, e36_0, e36_1, e36_2, e36_3, e36_8, e36_9, e36_10, e36_11, e36_39⟩
        refine wp_seq_k fun K42 hK42 => ?_
        refine wp_seq_k fun K43 hK43 => ?_
        refine c_region ?_
        refine s_op (o_move (v := (.int .i64 (i0 : Int))) e36_11 ?_)
        refine s_op (o_move (v := vf) e36_0 ?_)
        refine s_op (o_lenS Try.underlying28 rfl hf ?_)
        refine s_op (o_lss (a := (i0 : Int)) (b := ((first.length : Nat) : Int)) rfl rfl ?_)
        refine s_nil ?_
        refine t_norm (hK43 _ _ ?_)
        refine c_cond rfl (fun h44 => ?_) (fun h44 => ?_)
        · -- (i0 : Int) < ((first.length : Nat) : Int)
          refine wp_skip ?_
          refine t_norm (hK42 _ _ ?_)
          refine wp_seq_k fun K45 hK45 => ?_
          refine wp_block ?_
          refine c_region ?_
          refine s_op (o_move (v := vw) e36_10 ?_)
          refine s_op (o_move (v := vf) e36_0 ?_)
          refine s_op (o_move (v := (.int .i64 (i0 : Int))) e36_11 ?_)
          obtain ⟨x49, hx50⟩ : ∃ x_, first[((i0 : Int)).toNat]? = some x_ := get_some (by omega)
          refine s_op (o_index1 Try.underlying28 ti3 rfl hf rfl (by omega) hx50 fun b46 o47 hc48 => ?_)
          refine s_op (o_load1 (v := (.int .i64 x49)) Try.underlying3 rfl rfl hH40 (seg_sub 3 rfl) hc48 ?_)
          refine s_op (o_callf (vs := #[vw, (.int .i64 x49), (.bool true)]) ca35 rfl (args3 rfl rfl rfl) (with_c hH40.all (l := wl) (how.sl.mono (seg_sub 0 rfl)) (by omega) x49 true) ?_)
          rintro _ w56 ⟨v51, s52, rfl, ho53, hX54⟩
          refine ⟨_, rfl, ?_⟩
          have hH55 : Has E w56 [s52, hw, s25, [Hp.one b23 (.cells #[v24] 81 (0, 0))], R] := hX54.of_all1
          refine s_op (o_assign (v := v51) rfl ?_)
          refine s_nil ?_
          refine b_norm ?_
          refine t_norm (hK45 _ _ ?_)
          refine c_region ?_
          refine s_op (o_move (v := (.int .i64 (i0 : Int))) e36_11 ?_)
          refine s_op (o_add (a := (i0 : Int)) (b := 1) rfl rfl (w64 (by omega) (by omega)) ?_)
          refine s_op (o_assign (v := (.int .i64 ((i0 : Int) + 1))) rfl ?_)
          refine s_nil ?_
          have hH57 : Has E w56 [s52, s25, [Hp.one b23 (.cells #[v24] 81 (0, 0))], R] := ((((hH55.front 4 rfl).front 4 rfl).front 4 rfl).front 3 rfl).first 4 rfl
          refine t_norm ⟨first.length - (i0 + 1), _, rfl, ?_, ?_⟩
          · omega
          · exact ⟨(i0 + 1), v51, s52, (withS x49 (!true) wl), rfl, hH57, (by omega), (ho53), (with_sorted (b := true) hws), (first_mem hwm (show first[i0]? = some _ from hx50)), (by have := withS_le1 x49 (!true) wl; omega), e36_0, e36_1, e36_2, e36_3, e36_8, e36_9, rfl, rfl, e36_39⟩
        · -- not: (i0 : Int) < ((first.length : Nat) : Int)
          have heq : wl = now26 := sorted_eq hws hso28 (fun a => by rw [hwm, show i0 = first.length by omega, List.take_length, hm29])
          refine wp_exit ?_
          refine t_exit (t_exit (x_in (?_)))
          refine t_norm (hK34 _ _ ?_)
          refine wp_seq_k fun K58 hK58 => ?_
          refine wp_seq_k fun K59 hK59 => ?_
          refine c_region ?_
          refine s_op (o_assign (v := (.int .i64 0)) rfl ?_)
          refine s_nil ?_
          refine t_norm (hK59 _ _ ?_)
          refine wp_block ?_
          let I61 : Nat → (Nat → Value) → World → Prop := fun n__ r__ w__ => ∃ (i : Nat) (cur : List Int) (vs_ : Value) (hs_ : List Hp) (vw2 : Value) (hw2 : List Hp), n__ = l.length + 1 - i ∧ Has E w__ [hs_, [Hp.one b23 (.cells #[vs_] 81 (0, 0))], hw2, R] ∧ (i ≤ l.length) ∧ (Own 3 1 vs_ cur.length (cur.map iV) hs_) ∧ (Own 3 1 vw2 cur.length (cur.map iV) hw2) ∧ (cur.Pairwise (· < ·)) ∧ (cur.length ≤ 40 + 40 * i) ∧ r__ 0 = vf ∧ r__ 1 = v ∧ r__ 2 = va ∧ r__ 3 = (.int .i64 fr) ∧ r__ 9 = (.pointer (some ⟨b23, 0, none⟩)) ∧ r__ 10 = vw2 ∧ r__ 11 = (.int .i64 (i0 : Int)) ∧ r__ 12 = (.int .i64 (i : Int)) ∧ r__ 39 = (.bool false) ∧ r__ 46 = (.bool (decide ((i0 : Int) < ((first.length : Nat) : Int))))
          have hH62 : Has E w39 [s25, [Hp.one b23 (.cells #[v24] 81 (0, 0))], hw, R] := ((((hH40.front 3 rfl).front 1 rfl).front 3 rfl).front 3 rfl).first 4 rfl
          refine c_loop I61 _ ⟨0, now26, v24, s25, vw, hw, rfl, hH62, Nat.zero_le _, ho27, (by rw [← heq]; exact how), hso28, (by rw [← heq]; omega), e36_0, e36_1, e36_2, e36_3, e36_9, e36_10, e36_11, rfl, e36_39, rfl⟩ ?_
          rintro n_ r65 w63 ⟨i, cur, vs_, hs_, vw2, hw2, rfl, hH64, hi, hos_, how2, hcs, hcl, e60_0, e60_1, e60_2, e60_3, e60_9, e60_10, e60_11, e60_12, e60_39, e60_46⟩
          refine wp_seq_k fun K66 hK66 => ?_
          refine wp_seq_k fun K67 hK67 => ?_
          refine c_region ?_
          refine s_op (o_move (v := (.int .i64 (i : Int))) e60_12 ?_)
          refine s_op (o_move (v := v) e60_1 ?_)
          refine s_op (o_lenS Try.underlying56 rfl hv ?_)
          refine s_op (o_leq (a := (i : Int)) (b := ((l.length : Nat) : Int)) rfl rfl ?_)
          refine s_nil ?_
          refine t_norm (hK67 _ _ ?_)
          refine c_cond rfl (fun h68 => ?_) (fun h68 => ?_)
          · -- (i : Int) ≤ ((l.length : Nat) : Int)
            refine wp_skip ?_
            refine t_norm (hK66 _ _ ?_)
            refine wp_seq_k fun K69 hK69 => ?_
            refine wp_block ?_
            refine wp_seq_k fun K70 hK70 => ?_
            refine c_region ?_
            refine s_op (o_assign (v := (.bool true)) rfl ?_)
            refine s_nil ?_
            refine t_norm (hK70 _ _ ?_)
            refine wp_seq_k fun K71 hK71 => ?_
            refine wp_seq_k fun K72 hK72 => ?_
            refine c_region ?_
            refine s_op (o_assign (v := (.int .i64 0)) rfl ?_)
            refine s_nil ?_
            refine t_norm (hK72 _ _ ?_)
            refine wp_block ?_
            let I74 : Nat → (Nat → Value) → World → Prop := fun n__ r__ w__ => ∃ (k : Nat) (al : Bool), n__ = ask.length - k ∧ Has E w__ [hs_, [Hp.one b23 (.cells #[vs_] 81 (0, 0))], hw2, R] ∧ (k ≤ ask.length) ∧ (al = allIn (ask.take k) cur) ∧ r__ 0 = vf ∧ r__ 1 = v ∧ r__ 2 = va ∧ r__ 3 = (.int .i64 fr) ∧ r__ 9 = (.pointer (some ⟨b23, 0, none⟩)) ∧ r__ 10 = vw2 ∧ r__ 11 = (.int .i64 (i0 : Int)) ∧ r__ 12 = (.int .i64 (i : Int)) ∧ r__ 13 = (.bool al) ∧ r__ 14 = (.int .i64 (k : Int)) ∧ r__ 39 = (.bool false) ∧ r__ 46 = (.bool (decide ((i0 : Int) < ((first.length : Nat) : Int)))) ∧ r__ 58 = (.bool (decide ((i : Int) ≤ ((l.length : Nat) : Int))))
            refine c_loop I74 _ ⟨0, true, rfl, hH64, Nat.zero_le _, (by simp [allIn]), e60_0, e60_1, e60_2, e60_3, e60_9, e60_10, e60_11, e60_12, rfl, rfl, e60_39, e60_46, rfl⟩ ?_
            rintro n_ r77 w75 ⟨k, al, rfl, hH76, hk, hal, e73_0, e73_1, e73_2, e73_3, e73_9, e73_10, e73_11, e73_12, e73_13, e73_14, e73_39, e73_46, e73_58⟩
            refine wp_seq_k fun K78 hK78 => ?_
            refine wp_seq_k fun K79 hK79 => ?_
            refine c_region ?_
            refine s_op (o_move (v := (.int .i64 (k : Int))) e73_14 ?_)
            refine s_op (o_move (v := va) e73_2 ?_)
            refine s_op (o_lenS Try.underlying28 rfl hask ?_)
            refine s_op (o_lss (a := (k : Int)) (b := ((ask.length : Nat) : Int)) rfl rfl ?_)
            refine s_nil ?_
            refine t_norm (hK79 _ _ ?_)
            refine c_cond rfl (fun h80 => ?_) (fun h80 => ?_)
            · -- (k : Int) < ((ask.length : Nat) : Int)
              obtain ⟨xa, hxa⟩ : ∃ x_, ask[((k : Int)).toNat]? = some x_ := get_some (by omega)
              refine wp_skip ?_
              refine t_norm (hK78 _ _ ?_)
              refine wp_seq_k fun K81 hK81 => ?_
              refine wp_block ?_
              refine c_region ?_
              refine s_op (o_move (v := (.bool al)) e73_13 ?_)
              refine s_op (o_move (v := (.bool al)) rfl ?_)
              rcases Bool.eq_false_or_eq_true al with h82 | h82
              · -- al
                refine s_on 68 rfl (congrArg Value.bool h82) (o_move (v := vw2) e73_10 ?_)
                refine s_on 68 rfl (congrArg Value.bool h82) (o_move (v := va) e73_2 ?_)
                refine s_on 68 rfl (congrArg Value.bool h82) (o_move (v := (.int .i64 (k : Int))) e73_14 ?_)
                refine s_on 68 rfl (congrArg Value.bool h82) (o_index1 Try.underlying28 ti3 rfl hask rfl (by omega) hxa fun b83 o84 hc85 => ?_)
                refine s_on 68 rfl (congrArg Value.bool h82) (o_load1 (v := (.int .i64 xa)) Try.underlying3 rfl rfl hH76 (seg_sub 3 rfl) hc85 ?_)
                refine s_on 68 rfl (congrArg Value.bool h82) (o_callf (vs := #[vw2, (.int .i64 xa)]) ca36 rfl (args2 rfl rfl) (refhas_c hH76.all (l := cur) (how2.sl.mono (seg_sub 2 rfl)) xa) ?_)
                rintro _ w88 ⟨rfl, hX86⟩
                refine ⟨_, rfl, ?_⟩
                have hH87 := hX86.of_all
                refine s_op (o_pick_t (u := (.bool (decide (xa ∈ cur)))) ((rfl : _ = _).trans (congrArg Value.bool h82)) rfl ?_)
                refine s_op (o_assign (v := (.bool (decide (xa ∈ cur)))) rfl ?_)
                refine s_nil ?_
                refine b_norm ?_
                refine t_norm (hK81 _ _ ?_)
                refine c_region ?_
                refine s_op (o_move (v := (.int .i64 (k : Int))) e73_14 ?_)
                refine s_op (o_add (a := (k : Int)) (b := 1) rfl rfl (w64 (by omega) (by omega)) ?_)
                refine s_op (o_assign (v := (.int .i64 ((k : Int) + 1))) rfl ?_)
                refine s_nil ?_
                refine t_norm ⟨ask.length - (k + 1), _, rfl, ?_, ?_⟩
                · omega
                · exact ⟨(k + 1), (decide (xa ∈ cur)), rfl, hH87, (by omega), (by rw [← all_step hal (show ask[k]? = some _ from hxa), h82]; rfl), e73_0, e73_1, e73_2, e73_3, e73_9, e73_10, e73_11, e73_12, rfl, rfl, e73_39, e73_46, e73_58⟩
              · -- not: al
                refine s_off (b' := false) 68 rfl (congrArg Value.bool h82) rfl ?_
                refine s_off (b' := false) 68 rfl (congrArg Value.bool h82) rfl ?_
                refine s_off (b' := false) 68 rfl (congrArg Value.bool h82) rfl ?_
                refine s_off (b' := false) 68 rfl (congrArg Value.bool h82) rfl ?_
                refine s_off (b' := false) 68 rfl (congrArg Value.bool h82) rfl ?_
                refine s_off (b' := false) 68 rfl (congrArg Value.bool h82) rfl ?_
                refine s_op (o_pick_f (u := (.bool false)) ((rfl : _ = _).trans (congrArg Value.bool h82)) rfl ?_)
                refine s_op (o_assign (v := (.bool false)) rfl ?_)
                refine s_nil ?_
                refine b_norm ?_
                refine t_norm (hK81 _ _ ?_)
                refine c_region ?_
                refine s_op (o_move (v := (.int .i64 (k : Int))) e73_14 ?_)
                refine s_op (o_add (a := (k : Int)) (b := 1) rfl rfl (w64 (by omega) (by omega)) ?_)
                refine s_op (o_assign (v := (.int .i64 ((k : Int) + 1))) rfl ?_)
                refine s_nil ?_
                refine t_norm ⟨ask.length - (k + 1), _, rfl, ?_, ?_⟩
                · omega
                · exact ⟨(k + 1), false, rfl, hH76, (by omega), (by rw [← all_step hal (show ask[k]? = some _ from hxa), h82]; rfl), e73_0, e73_1, e73_2, e73_3, e73_9, e73_10, e73_11, e73_12, rfl, rfl, e73_39, e73_46, e73_58⟩
            · -- not: (k : Int) < ((ask.length : Nat) : Int)
              rw [show k = ask.length by omega, List.take_length] at hal
              refine wp_exit ?_
              refine t_exit (t_exit (x_in (?_)))
              refine t_norm (hK71 _ _ ?_)
              refine wp_seq_k fun K89 hK89 => ?_
              refine c_region ?_
              refine s_op (o_assign (v := (.slice none 0 0)) rfl ?_)
              refine s_nil ?_
              refine t_norm (hK89 _ _ ?_)
              refine wp_seq_k fun K90 hK90 => ?_
              refine wp_seq_k fun K91 hK91 => ?_
              refine c_region ?_
              refine s_op (o_assign (v := (.int .i64 0)) rfl ?_)
              refine s_nil ?_
              refine t_norm (hK91 _ _ ?_)
              refine wp_block ?_
              let I93 : Nat → (Nat → Value) → World → Prop := fun n__ r__ w__ => ∃ (k2 : Nat) (vm_ : Value) (hm_ : List Hp) (sm : List Int), n__ = cur.length - k2 ∧ Has E w__ [hm_, hs_, [Hp.one b23 (.cells #[vs_] 81 (0, 0))], hw2, R] ∧ (k2 ≤ cur.length) ∧ (Own 3 1 vm_ sm.length (sm.map iV) hm_) ∧ (sm.length ≤ k2) ∧ (sm = (cur.take k2).filter (fun a => decide (fr ≤ a))) ∧ r__ 0 = vf ∧ r__ 1 = v ∧ r__ 2 = va ∧ r__ 3 = (.int .i64 fr) ∧ r__ 9 = (.pointer (some ⟨b23, 0, none⟩)) ∧ r__ 10 = vw2 ∧ r__ 11 = (.int .i64 (i0 : Int)) ∧ r__ 12 = (.int .i64 (i : Int)) ∧ r__ 13 = (.bool al) ∧ r__ 14 = (.int .i64 (k : Int)) ∧ r__ 15 = vm_ ∧ r__ 16 = (.int .i64 (k2 : Int)) ∧ r__ 39 = (.bool false) ∧ r__ 46 = (.bool (decide ((i0 : Int) < ((first.length : Nat) : Int)))) ∧ r__ 58 = (.bool (decide ((i : Int) ≤ ((l.length : Nat) : Int)))) ∧ r__ 64 = (.bool (decide ((k : Int) < ((ask.length : Nat) : Int))))
              have hH94 : Has E w75 [[], hs_, [Hp.one b23 (.cells #[vs_] 81 (0, 0))], hw2, R] := (Has.nil ((((hH76.front 3 rfl).front 3 rfl).front 3 rfl).front 3 rfl)).first 5 rfl
              refine c_loop I93 _ ⟨0, (.slice none 0 0), [], [], rfl, hH94, Nat.zero_le _, Own.nil 3 1, (by simp), (by simp), e73_0, e73_1, e73_2, e73_3, e73_9, e73_10, e73_11, e73_12, e73_13, e73_14, rfl, rfl, e73_39, e73_46, e73_58, rfl⟩ ?_
              rintro n_ r97 w95 ⟨k2, vm_, hm_, sm, rfl, hH96, hk2, hom_, hsl, hsm, e92_0, e92_1, e92_2, e92_3, e92_9, e92_10, e92_11, e92_12, e92_13, e92_14, e92_15, e92_16, e92_39, e92_46, e92_58, e92_64⟩
              refine wp_seq_k fun K98 hK98 => ?_
              refine wp_seq_k fun K99 hK99 => ?_
              refine c_region ?_
              refine s_op (o_move (v := (.int .i64 (k2 : Int))) e92_16 ?_)
              refine s_op (o_move (v := vw2) e92_10 ?_)
              refine s_op (o_lenS Try.underlying28 rfl how2.sl ?_)
              refine s_op (o_lss (a := (k2 : Int)) (b := ((cur.length : Nat) : Int)) rfl rfl ?_)
              refine s_nil ?_
              refine t_norm (hK99 _ _ ?_)
              refine c_cond rfl (fun h100 => ?_) (fun h100 => ?_)
              · -- (k2 : Int) < ((cur.length : Nat) : Int)
                refine wp_skip ?_
                refine t_norm (hK98 _ _ ?_)
                refine wp_seq_k fun K101 hK101 => ?_
                refine wp_block ?_
                refine wp_seq_k fun K102 hK102 => ?_
                refine c_region ?_
                refine s_op (o_move (v := vw2) e92_10 ?_)
                refine s_op (o_move (v := (.int .i64 (k2 : Int))) e92_16 ?_)
                obtain ⟨x106, hx107⟩ : ∃ x_, cur[((k2 : Int)).toNat]? = some x_ := get_some (by omega)
                refine s_op (o_index1 Try.underlying28 ti3 rfl how2.sl rfl (by omega) hx107 fun b103 o104 hc105 => ?_)
                refine s_op (o_load1 (v := (.int .i64 x106)) Try.underlying3 rfl rfl hH96 (seg_sub 3 rfl) hc105 ?_)
                refine s_op (o_move (v := (.int .i64 fr)) e92_3 ?_)
                refine s_op (o_geq (a := x106) (b := fr) rfl rfl ?_)
                refine s_nil ?_
                refine t_norm (hK102 _ _ ?_)
                refine c_cond rfl (fun h108 => ?_) (fun h108 => ?_)
                · -- fr ≤ x106
                  refine c_region ?_
                  refine s_op (o_move (v := vm_) e92_15 ?_)
                  refine s_op (o_move (v := vw2) e92_10 ?_)
                  refine s_op (o_move (v := (.int .i64 (k2 : Int))) e92_16 ?_)
                  refine s_op (o_index1 Try.underlying28 ti3 rfl how2.sl rfl (by omega) hx107 fun b109 o110 hc111 => ?_)
                  refine s_op (o_load1 (v := (.int .i64 x106)) Try.underlying3 rfl rfl hH96 (seg_sub 3 rfl) hc111 ?_)
                  refine s_op (o_buildSlice (ps := #[(0, (.int .i64 x106))]) (cells := #[(.int .i64 x106)]) Try.underlying28 ti3 (by decide) (parts1 rfl) (by kernel_rfl) hH96 fun b112 w113 hH114 => ?_)
                  refine s_op (o_append Try.underlying28 ti3 rfl (by decide) rfl hom_ rfl (sl_lit (f := iV) (l := [x106]) rfl rfl (by simp)) (hH114.front 1 rfl) (seg_sub 0 rfl) (one_iV _) (by simp; omega) (by simp; omega) fun v115 s116 w118 ho117 hH119 => ?_)
                  have ho117 : Own 3 1 v115 (sm ++ [x106]).length ((sm ++ [x106]).map iV) s116 := ho117.app
                  refine s_op (o_assign (v := v115) rfl ?_)
                  refine s_nil ?_
                  refine b_norm ?_
                  refine t_norm (hK101 _ _ ?_)
                  refine c_region ?_
                  refine s_op (o_move (v := (.int .i64 (k2 : Int))) e92_16 ?_)
                  refine s_op (o_add (a := (k2 : Int)) (b := 1) rfl rfl (w64 (by omega) (by omega)) ?_)
                  refine s_op (o_assign (v := (.int .i64 ((k2 : Int) + 1))) rfl ?_)
                  refine s_nil ?_
                  have hH120 : Has E w118 [s116, hs_, [Hp.one b23 (.cells #[vs_] 81 (0, 0))], hw2, R] := (((((hH119.front 5 rfl).front 5 rfl).front 5 rfl).front 5 rfl).front 4 rfl).first 5 rfl
                  refine t_norm ⟨cur.length - (k2 + 1), _, rfl, ?_, ?_⟩
                  · omega
                  · exact ⟨(k2 + 1), v115, s116, (sm ++ [x106]), rfl, hH120, (by omega), (ho117), (by first | omega | (simp only [List.length_append, List.length_cons, List.length_nil]; omega)), (by have g_ := filt_step hsm (show cur[k2]? = some _ from hx107); rw [if_pos h108] at g_; exact g_), e92_0, e92_1, e92_2, e92_3, e92_9, e92_10, e92_11, e92_12, e92_13, e92_14, rfl, rfl, e92_39, e92_46, e92_58, e92_64⟩
                · -- not: fr ≤ x106
                  refine wp_skip ?_
                  refine b_norm ?_
                  refine t_norm (hK101 _ _ ?_)
                  refine c_region ?_
                  refine s_op (o_move (v := (.int .i64 (k2 : Int))) e92_16 ?_)
                  refine s_op (o_add (a := (k2 : Int)) (b := 1) rfl rfl (w64 (by omega) (by omega)) ?_)
                  refine s_op (o_assign (v := (.int .i64 ((k2 : Int) + 1))) rfl ?_)
                  refine s_nil ?_
                  refine t_norm ⟨cur.length - (k2 + 1), _, rfl, ?_, ?_⟩
                  · omega
                  · exact ⟨(k2 + 1), vm_, hm_, sm, rfl, hH96, (by omega), (hom_), (by first | omega | (simp only [List.length_append, List.length_cons, List.length_nil]; omega)), (by have g_ := filt_step hsm (show cur[k2]? = some _ from hx107); rw [if_neg h108] at g_; exact g_), e92_0, e92_1, e92_2, e92_3, e92_9, e92_10, e92_11, e92_12, e92_13, e92_14, e92_15, rfl, e92_39, e92_46, e92_58, e92_64⟩
              · -- not: (k2 : Int) < ((cur.length : Nat) : Int)
                rw [show k2 = cur.length by omega, List.take_length] at hsm
                refine wp_exit ?_
                refine t_exit (t_exit (x_in (?_)))
                refine t_norm (hK90 _ _ ?_)
                refine wp_seq_k fun K121 hK121 => ?_
                refine c_region ?_
                refine s_op (o_move (v := (.pointer (some ⟨b23, 0, none⟩))) e92_9 ?_)
                refine s_op (o_callf (vs := #[(.pointer (some ⟨b23, 0, none⟩))]) ca37 rfl (args1 rfl) (ends_c ((hH96.front 2 rfl).front 2 rfl).all2 hos_ hcs (by omega)) ?_)
                rintro _ w124 ⟨rfl, hX122⟩
                refine ⟨_, rfl, ?_⟩
                have hH123 : Has E w124 [hs_, [Hp.one b23 (.cells #[vs_] 81 (0, 0))], hm_, hw2, R] := hX122.of_all2
                refine s_op (o_move (v := (.tuple #[(.int .i64 (firstS cur)), (.int .i64 (lastS cur)), (.bool (decide (0 < cur.length)))])) rfl ?_)
                refine s_op (o_extract (v := (.int .i64 (firstS cur))) rfl rfl ?_)
                refine s_op (o_extract (v := (.int .i64 (lastS cur))) rfl rfl ?_)
                refine s_op (o_extract (v := (.bool (decide (0 < cur.length)))) rfl rfl ?_)
                refine s_op (o_assign (v := (.int .i64 (firstS cur))) rfl ?_)
                refine s_op (o_assign (v := (.int .i64 (lastS cur))) rfl ?_)
                refine s_op (o_assign (v := (.bool (decide (0 < cur.length)))) rfl ?_)
                refine s_nil ?_
                refine t_norm (hK121 _ _ ?_)
                refine wp_seq_k fun K125 hK125 => ?_
                refine wp_seq_k fun K126 hK126 => ?_
                let J128 : (Nat → Value) → World → Prop := fun r__ w__ => ∃ (bz : Bool), Has E w__ [hs_, [Hp.one b23 (.cells #[vs_] 81 (0, 0))], hw2, R] ∧ (bz = false) ∧ r__ 0 = vf ∧ r__ 1 = v ∧ r__ 2 = va ∧ r__ 3 = (.int .i64 fr) ∧ r__ 9 = (.pointer (some ⟨b23, 0, none⟩)) ∧ r__ 10 = vw2 ∧ r__ 11 = (.int .i64 (i0 : Int)) ∧ r__ 12 = (.int .i64 (i : Int)) ∧ r__ 13 = (.bool al) ∧ r__ 14 = (.int .i64 (k : Int)) ∧ r__ 15 = vm_ ∧ r__ 16 = (.int .i64 (k2 : Int)) ∧ r__ 17 = (.int .i64 (firstS cur)) ∧ r__ 18 = (.int .i64 (lastS cur)) ∧ r__ 19 = (.bool (decide (0 < cur.length))) ∧ r__ 39 = (.bool false) ∧ r__ 46 = (.bool (decide ((i0 : Int) < ((first.length : Nat) : Int)))) ∧ r__ 58 = (.bool (decide ((i : Int) ≤ ((l.length : Nat) : Int)))) ∧ r__ 64 = (.bool (decide ((k : Int) < ((ask.length : Nat) : Int)))) ∧ r__ 79 = (.bool (decide ((k2 : Int) < ((cur.length : Nat) : Int)))) ∧ r__ 166 = (.bool bz)
                have hJ129 : ∀ r w, J128 r w → K126 (Go.Q.fr 246 r) w := by
                  rintro r132 w130 ⟨bz, hH131, hbz, e127_0, e127_1, e127_2, e127_3, e127_9, e127_10, e127_11, e127_12, e127_13, e127_14, e127_15, e127_16, e127_17, e127_18, e127_19, e127_39, e127_46, e127_58, e127_64, e127_79, e127_166⟩
                  refine hK126 _ _ ?_
                  refine c_condb e127_166 (fun h133 => ?_) (fun h133 => ?_)
                  · -- bz
                    rw [hbz] at h133
                    cases h133
                  · -- not: bz
                    refine wp_skip ?_
                    refine t_norm (hK125 _ _ ?_)
                    refine wp_seq_k fun K134 hK134 => ?_
                    refine wp_seq_k fun K135 hK135 => ?_
                    refine c_region ?_
                    refine s_op (o_move (v := (.int .i64 (i : Int))) e127_12 ?_)
                    refine s_op (o_move (v := v) e127_1 ?_)
                    refine s_op (o_lenS Try.underlying56 rfl hv ?_)
                    refine s_op (o_eql (a := (i : Int)) (b := ((l.length : Nat) : Int)) rfl rfl ?_)
                    refine s_nil ?_
                    refine t_norm (hK135 _ _ ?_)
                    refine c_cond rfl (fun h136 => ?_) (fun h136 => ?_)
                    · -- (i : Int) = ((l.length : Nat) : Int)
                      refine wp_exit ?_
                      refine t_exit (x_out rfl (t_exit (t_exit (x_in (?_)))))
                      refine t_norm (hK58 _ _ ?_)
                      refine wp_seq_k fun K137 hK137 => ?_
                      refine c_region ?_
                      refine s_op (o_assign (v := (.bool true)) rfl ?_)
                      refine s_nil ?_
                      refine t_norm (hK137 _ _ ?_)
                      refine wp_ret ?_
                      refine c_ret1 Try.results9  (v := (.bool true)) rfl ?_
                      have hH138 : Has E w130 [R] := (hH131.front 3 rfl).first 1 rfl
                      exact ⟨rfl, hH138⟩
                    · -- not: (i : Int) = ((l.length : Nat) : Int)
                      obtain ⟨xs, hxs⟩ : ∃ x_, l[((i : Int)).toNat]? = some x_ := get_some (by omega)
                      have hml_ := (hok xs (List.mem_of_getElem? hxs)).2.1.le
                      refine wp_skip ?_
                      refine t_norm (hK134 _ _ ?_)
                      refine wp_seq_k fun K139 hK139 => ?_
                      refine wp_seq_k fun K140 hK140 => ?_
                      refine c_region ?_
                      refine s_op (o_move (v := v) e127_1 ?_)
                      refine s_op (o_move (v := (.int .i64 (i : Int))) e127_12 ?_)
                      refine s_op (o_indexF saC_len Try.underlying56 ti68 rfl hv rfl rfl (by omega) hxs fun b141 o142 hc143 => ?_)
                      refine s_op (o_fieldAddr (k := o142 + 1) (fun _ => by kernel_rfl) rfl ?_)
                      refine s_op (o_load1 (v := xs.v) Try.underlying28 rfl rfl hH131 (seg_sub 3 rfl) (CellsAt.field (k := 1) (ds := [xs.v]) hc143 rfl) ?_)
                      refine s_op (o_lenS Try.underlying28 rfl (hok xs (List.mem_of_getElem? hxs)).2.1 ?_)
                      refine s_op (o_gtr (a := ((xs.ml.length : Nat) : Int)) (b := 40) rfl rfl ?_)
                      refine s_nil ?_
                      refine t_norm (hK140 _ _ ?_)
                      refine c_cond rfl (fun h144 => ?_) (fun h144 => ?_)
                      · -- 40 < ((xs.ml.length : Nat) : Int)
                        refine wp_seq_k fun K145 hK145 => ?_
                        refine c_region ?_
                        refine s_op (o_assign (v := (.bool true)) rfl ?_)
                        refine s_nil ?_
                        refine t_norm (hK145 _ _ ?_)
                        refine wp_ret ?_
                        refine t_ret (b_ret (t_ret (t_ret (b_ret (t_ret (c_ret1 Try.results9  (v := (.bool true)) rfl ?_))))))
                        have hH146 : Has E w130 [R] := (hH131.front 3 rfl).first 1 rfl
                        exact ⟨rfl, hH146⟩
                      · -- not: 40 < ((xs.ml.length : Nat) : Int)
                        refine wp_skip ?_
                        refine t_norm (hK139 _ _ ?_)
                        refine wp_seq_k fun K147 hK147 => ?_
                        refine c_region ?_
                        refine s_op (o_assign (v := (.int .i64 0)) rfl ?_)
                        refine s_nil ?_
                        refine t_norm (hK147 _ _ ?_)
                        refine wp_seq_k fun K148 hK148 => ?_
                        refine wp_seq_k fun K149 hK149 => ?_
                        refine c_region ?_
                        refine s_op (o_assign (v := (.int .i64 0)) rfl ?_)
                        refine s_nil ?_
                        refine t_norm (hK149 _ _ ?_)
                        refine wp_block ?_
                        let I151 : Nat → (Nat → Value) → World → Prop := fun n__ r__ w__ => ∃ (j : Nat) (cnt : Int) (vc : Value) (hc_ : List Hp) (cu2 : List Int), n__ = xs.ml.length - j ∧ Has E w__ [hs_, [Hp.one b23 (.cells #[vs_] 81 (0, 0))], hc_, R] ∧ (j ≤ xs.ml.length) ∧ (Own 3 1 vc cu2.length (cu2.map iV) hc_) ∧ (cu2.Pairwise (· < ·)) ∧ (cu2.length ≤ cur.length + j) ∧ (0 ≤ cnt ∧ cnt ≤ j) ∧ (cnt = if (decide (xs.kind = 0)) = true then (cu2.length : Int) - (cur.length : Int) else (cur.length : Int) - (cu2.length : Int)) ∧ (∀ a, a ∈ cu2 ↔ (if (decide (xs.kind = 0)) = true then a ∈ cur ∨ a ∈ xs.ml.take j else a ∈ cur ∧ a ∉ xs.ml.take j)) ∧ r__ 0 = vf ∧ r__ 1 = v ∧ r__ 2 = va ∧ r__ 3 = (.int .i64 fr) ∧ r__ 9 = (.pointer (some ⟨b23, 0, none⟩)) ∧ r__ 10 = vc ∧ r__ 11 = (.int .i64 (i0 : Int)) ∧ r__ 12 = (.int .i64 (i : Int)) ∧ r__ 13 = (.bool al) ∧ r__ 14 = (.int .i64 (k : Int)) ∧ r__ 15 = vm_ ∧ r__ 16 = (.int .i64 (k2 : Int)) ∧ r__ 17 = (.int .i64 (firstS cur)) ∧ r__ 18 = (.int .i64 (lastS cur)) ∧ r__ 19 = (.bool (decide (0 < cur.length))) ∧ r__ 20 = (.int .i64 cnt) ∧ r__ 21 = (.int .i64 (j : Int)) ∧ r__ 39 = (.bool false) ∧ r__ 46 = (.bool (decide ((i0 : Int) < ((first.length : Nat) : Int)))) ∧ r__ 58 = (.bool (decide ((i : Int) ≤ ((l.length : Nat) : Int)))) ∧ r__ 64 = (.bool (decide ((k : Int) < ((ask.length : Nat) : Int)))) ∧ r__ 79 = (.bool (decide ((k2 : Int) < ((cur.length : Nat) : Int)))) ∧ r__ 166 = (.bool bz) ∧ r__ 170 = (.bool (decide ((i : Int) = ((l.length : Nat) : Int)))) ∧ r__ 177 = (.bool (decide (40 < ((xs.ml.length : Nat) : Int))))
                        refine c_loop I151 _ ⟨0, 0, vw2, hw2, cur, rfl, hH131, Nat.zero_le _, how2, hcs, (by omega), (by omega), (by simp), (by simp), e127_0, e127_1, e127_2, e127_3, e127_9, e127_10, e127_11, e127_12, e127_13, e127_14, e127_15, e127_16, e127_17, e127_18, e127_19, rfl, rfl, e127_39, e127_46, e127_58, e127_64, e127_79, e127_166, rfl, rfl⟩ ?_
                        rintro n_ r154 w152 ⟨j, cnt, vc, hc_, cu2, rfl, hH153, hj, hoc, hcs2, hcl2, hcn0, hcn, hmm, e150_0, e150_1, e150_2, e150_3, e150_9, e150_10, e150_11, e150_12, e150_13, e150_14, e150_15, e150_16, e150_17, e150_18, e150_19, e150_20, e150_21, e150_39, e150_46, e150_58, e150_64, e150_79, e150_166, e150_170, e150_177⟩
                        refine wp_seq_k fun K155 hK155 => ?_
                        refine wp_seq_k fun K156 hK156 => ?_
                        refine c_region ?_
                        refine s_op (o_move (v := (.int .i64 (j : Int))) e150_21 ?_)
                        refine s_op (o_move (v := v) e150_1 ?_)
                        refine s_op (o_move (v := (.int .i64 (i : Int))) e150_12 ?_)
                        refine s_op (o_indexF saC_len Try.underlying56 ti68 rfl hv rfl rfl (by omega) hxs fun b157 o158 hc159 => ?_)
                        refine s_op (o_fieldAddr (k := o158 + 1) (fun _ => by kernel_rfl) rfl ?_)
                        refine s_op (o_load1 (v := xs.v) Try.underlying28 rfl rfl hH153 (seg_sub 3 rfl) (CellsAt.field (k := 1) (ds := [xs.v]) hc159 rfl) ?_)
                        refine s_op (o_lenS Try.underlying28 rfl (hok xs (List.mem_of_getElem? hxs)).2.1 ?_)
                        refine s_op (o_lss (a := (j : Int)) (b := ((xs.ml.length : Nat) : Int)) rfl rfl ?_)
                        refine s_nil ?_
                        refine t_norm (hK156 _ _ ?_)
                        refine c_cond rfl (fun h160 => ?_) (fun h160 => ?_)
                        · -- (j : Int) < ((xs.ml.length : Nat) : Int)
                          obtain ⟨xm, hxm⟩ : ∃ x_, xs.ml[((j : Int)).toNat]? = some x_ := get_some (by omega)
                          refine wp_skip ?_
                          refine t_norm (hK155 _ _ ?_)
                          refine wp_seq_k fun K161 hK161 => ?_
                          refine wp_block ?_
                          refine wp_seq_k fun K162 hK162 => ?_
                          refine wp_seq_k fun K163 hK163 => ?_
                          refine c_flow2 [hs_, [Hp.one b23 (.cells #[vs_] 81 (0, 0))], hc_, R] (fun i_ => match i_ with | _ => []) (fun i_ v_ h_ m_ => match i_ with | 0 => v_ = vc ∧ h_ = [] | 1 => v_ = v ∧ h_ = [] | 2 => v_ = (.int .i64 (i : Int)) ∧ h_ = [] | 3 => ∃ (b164 : Nat) (o165 : Nat), v_ = (.pointer (some ⟨b164, o165, none⟩)) ∧ h_ = [] ∧ (CellsAt R b164 o165 [(.int .i64 xs.kind), xs.v]) | 4 => ∃ (b164 : Nat) (o165 : Nat), m_ 3 = (.pointer (some ⟨b164, o165, none⟩)) ∧ v_ = (.pointer (some ⟨b164, o165 + 1, none⟩)) ∧ h_ = [] | 5 => v_ = xs.v ∧ h_ = [] | 6 => v_ = (.int .i64 (j : Int)) ∧ h_ = [] | 7 => ∃ (b167 : Nat) (o168 : Nat), v_ = (.pointer (some ⟨b167, o168, none⟩)) ∧ h_ = [] ∧ (CellsAt R b167 o168 [(.int .i64 xm)]) | 8 => v_ = (.int .i64 xm) ∧ h_ = [] | 9 => v_ = (.bool (decide (xm ∈ cu2))) ∧ h_ = [] | 10 => v_ = v ∧ h_ = [] | 11 => v_ = (.int .i64 (i : Int)) ∧ h_ = [] | 12 => ∃ (b173 : Nat) (o174 : Nat), v_ = (.pointer (some ⟨b173, o174, none⟩)) ∧ h_ = [] ∧ (CellsAt R b173 o174 [(.int .i64 xs.kind), xs.v]) | 13 => ∃ (b173 : Nat) (o174 : Nat), m_ 12 = (.pointer (some ⟨b173, o174, none⟩)) ∧ v_ = (.pointer (some ⟨b173, o174, none⟩)) ∧ h_ = [] | 14 => v_ = (.int .i64 xs.kind) ∧ h_ = [] | 15 => v_ = (.bool (decide (xs.kind = 0))) ∧ h_ = [] | 16 => v_ = (.bool (!((decide (xm ∈ cu2)) == (decide (xs.kind = 0))))) ∧ h_ = [] | _ => True) mixed (by kernel_rfl) (flow_has (cs := []) hH153 rfl) ?_ ?_
                          · intro i_ o_ ho_ r' w' G hs_ ht
                            match i_, ho_ with
                            | 0, ho_ =>
                              obtain rfl := Option.some.inj ho_
                              have e10 : r' 10 = vc := (ht.was 10 (by kernel_rfl)).trans e150_10
                              have hG := ht.has.drop
                              refine o_move (v := vc) e10 ?_
                              exact ⟨_, ⟨rfl, rfl⟩, hG⟩
                            | 1, ho_ =>
                              obtain rfl := Option.some.inj ho_
                              have e1 : r' 1 = v := (ht.was 1 (by kernel_rfl)).trans e150_1
                              have hG := ht.has.drop
                              refine o_move (v := v) e1 ?_
                              exact ⟨_, ⟨rfl, rfl⟩, hG⟩
                            | 2, ho_ =>
                              obtain rfl := Option.some.inj ho_
                              have e12 : r' 12 = (.int .i64 (i : Int)) := (ht.was 12 (by kernel_rfl)).trans e150_12
                              have hG := ht.has.drop
                              refine o_move (v := (.int .i64 (i : Int))) e12 ?_
                              exact ⟨_, ⟨rfl, rfl⟩, hG⟩
                            | 3, ho_ =>
                              obtain rfl := Option.some.inj ho_
                              obtain ⟨e189, eh1⟩ := (ht.done 1 _ rfl rfl).1
                              obtain ⟨e190, eh2⟩ := (ht.done 2 _ rfl rfl).1
                              have hG := ht.has.drop
                              refine o_indexF saC_len Try.underlying56 ti68 e189 hv rfl e190 (by omega) hxs fun b164 o165 hc166 => ?_
                              exact ⟨_, ⟨b164, o165, rfl, rfl, hc166⟩, hG⟩
                            | 4, ho_ =>
                              obtain rfl := Option.some.inj ho_
                              obtain ⟨b164, o165, e191, eh3, hc166⟩ := (ht.done 3 _ rfl rfl).1
                              have hG := ht.has.drop
                              refine o_fieldAddr (k := o165 + 1) (fun _ => by kernel_rfl) e191 ?_
                              exact ⟨_, ⟨b164, o165, e191, rfl, rfl⟩, hG⟩
                            | 5, ho_ =>
                              obtain rfl := Option.some.inj ho_
                              obtain ⟨b164, o165, e191, eh3, hc166⟩ := (ht.done 3 _ rfl rfl).1
                              obtain ⟨b164_4, o165_4, q4_3, e192, eh4⟩ := (ht.done 4 _ rfl rfl).1
                              have z_ : b164 = b164_4 := by have z0_ := Eq.trans (Eq.symm e191) q4_3; first | simpa using z0_ | (simp at z0_; first | exact z0_.1 | exact z0_.2)
                              subst z_
                              have z_ : o165 = o165_4 := by have z0_ := Eq.trans (Eq.symm e191) q4_3; first | simpa using z0_ | (simp at z0_; first | exact z0_.1 | exact z0_.2)
                              subst z_
                              have hG := ht.has.drop
                              refine o_load1 (v := xs.v) Try.underlying28 rfl e192 hG (ht.fr R (by simp)) (CellsAt.field (k := 1) (ds := [xs.v]) hc166 rfl) ?_
                              exact ⟨_, ⟨rfl, rfl⟩, hG⟩
                            | 6, ho_ =>
                              obtain rfl := Option.some.inj ho_
                              have e21 : r' 21 = (.int .i64 (j : Int)) := (ht.was 21 (by kernel_rfl)).trans e150_21
                              have hG := ht.has.drop
                              refine o_move (v := (.int .i64 (j : Int))) e21 ?_
                              exact ⟨_, ⟨rfl, rfl⟩, hG⟩
                            | 7, ho_ =>
                              obtain rfl := Option.some.inj ho_
                              obtain ⟨b164, o165, e191, eh3, hc166⟩ := (ht.done 3 _ rfl rfl).1
                              obtain ⟨b164_4, o165_4, q4_3, e192, eh4⟩ := (ht.done 4 _ rfl rfl).1
                              have z_ : b164 = b164_4 := by have z0_ := Eq.trans (Eq.symm e191) q4_3; first | simpa using z0_ | (simp at z0_; first | exact z0_.1 | exact z0_.2)
                              subst z_
                              have z_ : o165 = o165_4 := by have z0_ := Eq.trans (Eq.symm e191) q4_3; first | simpa using z0_ | (simp at z0_; first | exact z0_.1 | exact z0_.2)
                              subst z_
                              obtain ⟨e193, eh5⟩ := (ht.done 5 _ rfl rfl).1
                              obtain ⟨e194, eh6⟩ := (ht.done 6 _ rfl rfl).1
                              have hG := ht.has.drop
                              refine o_index1 Try.underlying28 ti3 e193 (hok xs (List.mem_of_getElem? hxs)).2.1 e194 (by omega) hxm fun b167 o168 hc169 => ?_
                              exact ⟨_, ⟨b167, o168, rfl, rfl, hc169⟩, hG⟩
                            | 8, ho_ =>
                              obtain rfl := Option.some.inj ho_
                              obtain ⟨b164, o165, e191, eh3, hc166⟩ := (ht.done 3 _ rfl rfl).1
                              obtain ⟨b164_4, o165_4, q4_3, e192, eh4⟩ := (ht.done 4 _ rfl rfl).1
                              have z_ : b164 = b164_4 := by have z0_ := Eq.trans (Eq.symm e191) q4_3; first | simpa using z0_ | (simp at z0_; first | exact z0_.1 | exact z0_.2)
                              subst z_
                              have z_ : o165 = o165_4 := by have z0_ := Eq.trans (Eq.symm e191) q4_3; first | simpa using z0_ | (simp at z0_; first | exact z0_.1 | exact z0_.2)
                              subst z_
                              obtain ⟨b167, o168, e195, eh7, hc169⟩ := (ht.done 7 _ rfl rfl).1
                              have hG := ht.has.drop
                              refine o_load1 (v := (.int .i64 xm)) Try.underlying3 rfl e195 hG (ht.fr R (by simp)) hc169 ?_
                              exact ⟨_, ⟨rfl, rfl⟩, hG⟩
                            | 9, ho_ =>
                              obtain rfl := Option.some.inj ho_
                              obtain ⟨e188, eh0⟩ := (ht.done 0 _ rfl rfl).1
                              obtain ⟨b164, o165, e191, eh3, hc166⟩ := (ht.done 3 _ rfl rfl).1
                              obtain ⟨b164_4, o165_4, q4_3, e192, eh4⟩ := (ht.done 4 _ rfl rfl).1
                              have z_ : b164 = b164_4 := by have z0_ := Eq.trans (Eq.symm e191) q4_3; first | simpa using z0_ | (simp at z0_; first | exact z0_.1 | exact z0_.2)
                              subst z_
                              have z_ : o165 = o165_4 := by have z0_ := Eq.trans (Eq.symm e191) q4_3; first | simpa using z0_ | (simp at z0_; first | exact z0_.1 | exact z0_.2)
                              subst z_
                              obtain ⟨b167, o168, e195, eh7, hc169⟩ := (ht.done 7 _ rfl rfl).1
                              obtain ⟨e196, eh8⟩ := (ht.done 8 _ rfl rfl).1
                              have hG := ht.has.drop
                              refine o_callf (vs := #[vc, (.int .i64 xm)]) ca36 rfl (args2 e188 e196) (refhas_c hG.all (l := cu2) (hoc.sl.mono (ht.fr hc_ (by simp))) xm) ?_
                              rintro _ w172 ⟨rfl, hX170⟩
                              refine ⟨_, rfl, ?_⟩
                              have hH171 := hX170.of_all
                              exact ⟨_, ⟨rfl, rfl⟩, hH171⟩
                            | 10, ho_ =>
                              obtain rfl := Option.some.inj ho_
                              have e1 : r' 1 = v := (ht.was 1 (by kernel_rfl)).trans e150_1
                              have hG := ht.has.drop
                              refine o_move (v := v) e1 ?_
                              exact ⟨_, ⟨rfl, rfl⟩, hG⟩
                            | 11, ho_ =>
                              obtain rfl := Option.some.inj ho_
                              have e12 : r' 12 = (.int .i64 (i : Int)) := (ht.was 12 (by kernel_rfl)).trans e150_12
                              have hG := ht.has.drop
                              refine o_move (v := (.int .i64 (i : Int))) e12 ?_
                              exact ⟨_, ⟨rfl, rfl⟩, hG⟩
                            | 12, ho_ =>
                              obtain rfl := Option.some.inj ho_
                              obtain ⟨e198, eh10⟩ := (ht.done 10 _ rfl rfl).1
                              obtain ⟨e199, eh11⟩ := (ht.done 11 _ rfl rfl).1
                              have hG := ht.has.drop
                              refine o_indexF saC_len Try.underlying56 ti68 e198 hv rfl e199 (by omega) hxs fun b173 o174 hc175 => ?_
                              exact ⟨_, ⟨b173, o174, rfl, rfl, hc175⟩, hG⟩
                            | 13, ho_ =>
                              obtain rfl := Option.some.inj ho_
                              obtain ⟨b173, o174, e200, eh12, hc175⟩ := (ht.done 12 _ rfl rfl).1
                              have hG := ht.has.drop
                              refine o_fieldAddr (k := o174) (fun _ => by kernel_rfl) e200 ?_
                              exact ⟨_, ⟨b173, o174, e200, rfl, rfl⟩, hG⟩
                            | 14, ho_ =>
                              obtain rfl := Option.some.inj ho_
                              obtain ⟨b173, o174, e200, eh12, hc175⟩ := (ht.done 12 _ rfl rfl).1
                              obtain ⟨b173_13, o174_13, q13_12, e201, eh13⟩ := (ht.done 13 _ rfl rfl).1
                              have z_ : b173 = b173_13 := by have z0_ := Eq.trans (Eq.symm e200) q13_12; first | simpa using z0_ | (simp at z0_; first | exact z0_.1 | exact z0_.2)
                              subst z_
                              have z_ : o174 = o174_13 := by have z0_ := Eq.trans (Eq.symm e200) q13_12; first | simpa using z0_ | (simp at z0_; first | exact z0_.1 | exact z0_.2)
                              subst z_
                              have hG := ht.has.drop
                              refine o_load1 (v := (.int .i64 xs.kind)) Try.underlying3 rfl e201 hG (ht.fr R (by simp)) (CellsAt.field (k := 0) (ds := [(.int .i64 xs.kind)]) hc175 rfl) ?_
                              exact ⟨_, ⟨rfl, rfl⟩, hG⟩
                            | 15, ho_ =>
                              obtain rfl := Option.some.inj ho_
                              obtain ⟨b173, o174, e200, eh12, hc175⟩ := (ht.done 12 _ rfl rfl).1
                              obtain ⟨b173_13, o174_13, q13_12, e201, eh13⟩ := (ht.done 13 _ rfl rfl).1
                              have z_ : b173 = b173_13 := by have z0_ := Eq.trans (Eq.symm e200) q13_12; first | simpa using z0_ | (simp at z0_; first | exact z0_.1 | exact z0_.2)
                              subst z_
                              have z_ : o174 = o174_13 := by have z0_ := Eq.trans (Eq.symm e200) q13_12; first | simpa using z0_ | (simp at z0_; first | exact z0_.1 | exact z0_.2)
                              subst z_
                              obtain ⟨e202, eh14⟩ := (ht.done 14 _ rfl rfl).1
                              have hG := ht.has.drop
                              refine o_eql (a := xs.kind) (b := 0) e202 rfl ?_
                              exact ⟨_, ⟨rfl, rfl⟩, hG⟩
                            | 16, ho_ =>
                              obtain rfl := Option.some.inj ho_
                              obtain ⟨b164, o165, e191, eh3, hc166⟩ := (ht.done 3 _ rfl rfl).1
                              obtain ⟨b164_4, o165_4, q4_3, e192, eh4⟩ := (ht.done 4 _ rfl rfl).1
                              have z_ : b164 = b164_4 := by have z0_ := Eq.trans (Eq.symm e191) q4_3; first | simpa using z0_ | (simp at z0_; first | exact z0_.1 | exact z0_.2)
                              subst z_
                              have z_ : o165 = o165_4 := by have z0_ := Eq.trans (Eq.symm e191) q4_3; first | simpa using z0_ | (simp at z0_; first | exact z0_.1 | exact z0_.2)
                              subst z_
                              obtain ⟨b167, o168, e195, eh7, hc169⟩ := (ht.done 7 _ rfl rfl).1
                              obtain ⟨e197, eh9⟩ := (ht.done 9 _ rfl rfl).1
                              obtain ⟨b173, o174, e200, eh12, hc175⟩ := (ht.done 12 _ rfl rfl).1
                              obtain ⟨b173_13, o174_13, q13_12, e201, eh13⟩ := (ht.done 13 _ rfl rfl).1
                              have z_ : b173 = b173_13 := by have z0_ := Eq.trans (Eq.symm e200) q13_12; first | simpa using z0_ | (simp at z0_; first | exact z0_.1 | exact z0_.2)
                              subst z_
                              have z_ : o174 = o174_13 := by have z0_ := Eq.trans (Eq.symm e200) q13_12; first | simpa using z0_ | (simp at z0_; first | exact z0_.1 | exact z0_.2)
                              subst z_
                              obtain ⟨e203, eh15⟩ := (ht.done 15 _ rfl rfl).1
                              have hG := ht.has.drop
                              refine o_neqb Try.underlying4 e197 e203 ?_
                              exact ⟨_, ⟨rfl, rfl⟩, hG⟩
                            | i_ + 17, ho_ => exact absurd ho_ (by simp)
                          · intro vs176 hs177 w178 hT179 hH180
                            obtain ⟨e0_, eh0_⟩ := hT179 0 _ rfl
                            obtain ⟨e1_, eh1_⟩ := hT179 1 _ rfl
                            obtain ⟨e2_, eh2_⟩ := hT179 2 _ rfl
                            obtain ⟨b164, o165, e3_, eh3_, hc166⟩ := hT179 3 _ rfl
                            obtain ⟨b164_4, o165_4, q4_3, e4_, eh4_⟩ := hT179 4 _ rfl
                            have z_ : b164 = b164_4 := by have z0_ := Eq.trans (Eq.symm e3_) q4_3; first | simpa using z0_ | (simp at z0_; first | exact z0_.1 | exact z0_.2)
                            subst z_
                            have z_ : o165 = o165_4 := by have z0_ := Eq.trans (Eq.symm e3_) q4_3; first | simpa using z0_ | (simp at z0_; first | exact z0_.1 | exact z0_.2)
                            subst z_
                            obtain ⟨e5_, eh5_⟩ := hT179 5 _ rfl
                            obtain ⟨e6_, eh6_⟩ := hT179 6 _ rfl
                            obtain ⟨b167, o168, e7_, eh7_, hc169⟩ := hT179 7 _ rfl
                            obtain ⟨e8_, eh8_⟩ := hT179 8 _ rfl
                            obtain ⟨e9_, eh9_⟩ := hT179 9 _ rfl
                            obtain ⟨e10_, eh10_⟩ := hT179 10 _ rfl
                            obtain ⟨e11_, eh11_⟩ := hT179 11 _ rfl
                            obtain ⟨b173, o174, e12_, eh12_, hc175⟩ := hT179 12 _ rfl
                            obtain ⟨b173_13, o174_13, q13_12, e13_, eh13_⟩ := hT179 13 _ rfl
                            have z_ : b173 = b173_13 := by have z0_ := Eq.trans (Eq.symm e12_) q13_12; first | simpa using z0_ | (simp at z0_; first | exact z0_.1 | exact z0_.2)
                            subst z_
                            have z_ : o174 = o174_13 := by have z0_ := Eq.trans (Eq.symm e12_) q13_12; first | simpa using z0_ | (simp at z0_; first | exact z0_.1 | exact z0_.2)
                            subst z_
                            obtain ⟨e14_, eh14_⟩ := hT179 14 _ rfl
                            obtain ⟨e15_, eh15_⟩ := hT179 15 _ rfl
                            obtain ⟨e16_, eh16_⟩ := hT179 16 _ rfl
                            have hH181 : Has E w178 ([hs_, [Hp.one b23 (.cells #[vs_] 81 (0, 0))], hc_, R] ++ []) := flow_back (cs := []) hH180 (by show (hs177 0 ++ (hs177 1 ++ (hs177 2 ++ (hs177 3 ++ (hs177 4 ++ (hs177 5 ++ (hs177 6 ++ (hs177 7 ++ (hs177 8 ++ (hs177 9 ++ (hs177 10 ++ (hs177 11 ++ (hs177 12 ++ (hs177 13 ++ (hs177 14 ++ (hs177 15 ++ (hs177 16 ++ []))))))))))))))))) = _; rw [eh0_, eh1_, eh2_, eh3_, eh4_, eh5_, eh6_, eh7_, eh8_, eh9_, eh10_, eh11_, eh12_, eh13_, eh14_, eh15_, eh16_]; rfl)
                            generalize hr183 : puts vs176 _ 0 _ = r182
                            have e184_0 : r182 0 = vf := by rw [← hr183]; exact e150_0
                            have e184_1 : r182 1 = v := by rw [← hr183]; exact e150_1
                            have e184_2 : r182 2 = va := by rw [← hr183]; exact e150_2
                            have e184_3 : r182 3 = (.int .i64 fr) := by rw [← hr183]; exact e150_3
                            have e184_9 : r182 9 = (.pointer (some ⟨b23, 0, none⟩)) := by rw [← hr183]; exact e150_9
                            have e184_10 : r182 10 = vc := by rw [← hr183]; exact e150_10
                            have e184_11 : r182 11 = (.int .i64 (i0 : Int)) := by rw [← hr183]; exact e150_11
                            have e184_12 : r182 12 = (.int .i64 (i : Int)) := by rw [← hr183]; exact e150_12
                            have e184_13 : r182 13 = (.bool al) := by rw [← hr183]; exact e150_13
                            have e184_14 : r182 14 = (.int .i64 (k : Int)) := by rw [← hr183]; exact e150_14
                            have e184_15 : r182 15 = vm_ := by rw [← hr183]; exact e150_15
                            have e184_16 : r182 16 = (.int .i64 (k2 : Int)) := by rw [← hr183]; exact e150_16
                            have e184_17 : r182 17 = (.int .i64 (firstS cur)) := by rw [← hr183]; exact e150_17
                            have e184_18 : r182 18 = (.int .i64 (lastS cur)) := by rw [← hr183]; exact e150_18
                            have e184_19 : r182 19 = (.bool (decide (0 < cur.length))) := by rw [← hr183]; exact e150_19
                            have e184_20 : r182 20 = (.int .i64 cnt) := by rw [← hr183]; exact e150_20
                            have e184_21 : r182 21 = (.int .i64 (j : Int)) := by rw [← hr183]; exact e150_21
                            have e184_39 : r182 39 = (.bool false) := by rw [← hr183]; exact e150_39
                            have e184_46 : r182 46 = (.bool (decide ((i0 : Int) < ((first.length : Nat) : Int)))) := by rw [← hr183]; exact e150_46
                            have e184_58 : r182 58 = (.bool (decide ((i : Int) ≤ ((l.length : Nat) : Int)))) := by rw [← hr183]; exact e150_58
                            have e184_64 : r182 64 = (.bool (decide ((k : Int) < ((ask.length : Nat) : Int)))) := by rw [← hr183]; exact e150_64
                            have e184_79 : r182 79 = (.bool (decide ((k2 : Int) < ((cur.length : Nat) : Int)))) := by rw [← hr183]; exact e150_79
                            have e184_166 : r182 166 = (.bool bz) := by rw [← hr183]; exact e150_166
                            have e184_170 : r182 170 = (.bool (decide ((i : Int) = ((l.length : Nat) : Int)))) := by rw [← hr183]; exact e150_170
                            have e184_177 : r182 177 = (.bool (decide (40 < ((xs.ml.length : Nat) : Int)))) := by rw [← hr183]; exact e150_177
                            have e184_185 : r182 185 = (.bool (decide ((j : Int) < ((xs.ml.length : Nat) : Int)))) := by rw [← hr183]; exact rfl
                            have e184_204 : r182 204 = (.bool (!((decide (xm ∈ cu2)) == (decide (xs.kind = 0))))) := by rw [← hr183]; exact e16_
                            refine t_norm (hK163 _ _ ?_)
                            refine c_condb e184_204 (fun h185 => ?_) (fun h185 => ?_)
                            · -- !((decide (xm ∈ cu2)) == (decide (xs.kind = 0)))
                              refine c_region ?_
                              refine s_op (o_move (v := (.int .i64 cnt)) e184_20 ?_)
                              refine s_op (o_add (a := cnt) (b := 1) rfl rfl (w64 (by omega) (by omega)) ?_)
                              refine s_op (o_assign (v := (.int .i64 (cnt + 1))) rfl ?_)
                              refine s_nil ?_
                              refine t_norm (hK162 _ _ ?_)
                              refine c_flow2 [hs_, [Hp.one b23 (.cells #[vs_] 81 (0, 0))], hc_, R] (fun i_ => match i_ with | _ => []) (fun i_ v_ h_ m_ => match i_ with | 0 => v_ = vc ∧ h_ = [] | 1 => v_ = v ∧ h_ = [] | 2 => v_ = (.int .i64 (i : Int)) ∧ h_ = [] | 3 => ∃ (b186 : Nat) (o187 : Nat), v_ = (.pointer (some ⟨b186, o187, none⟩)) ∧ h_ = [] ∧ (CellsAt R b186 o187 [(.int .i64 xs.kind), xs.v]) | 4 => ∃ (b186 : Nat) (o187 : Nat), m_ 3 = (.pointer (some ⟨b186, o187, none⟩)) ∧ v_ = (.pointer (some ⟨b186, o187 + 1, none⟩)) ∧ h_ = [] | 5 => v_ = xs.v ∧ h_ = [] | 6 => v_ = (.int .i64 (j : Int)) ∧ h_ = [] | 7 => ∃ (b189 : Nat) (o190 : Nat), v_ = (.pointer (some ⟨b189, o190, none⟩)) ∧ h_ = [] ∧ (CellsAt R b189 o190 [(.int .i64 xm)]) | 8 => v_ = (.int .i64 xm) ∧ h_ = [] | 9 => v_ = v ∧ h_ = [] | 10 => v_ = (.int .i64 (i : Int)) ∧ h_ = [] | 11 => ∃ (b192 : Nat) (o193 : Nat), v_ = (.pointer (some ⟨b192, o193, none⟩)) ∧ h_ = [] ∧ (CellsAt R b192 o193 [(.int .i64 xs.kind), xs.v]) | 12 => ∃ (b192 : Nat) (o193 : Nat), m_ 11 = (.pointer (some ⟨b192, o193, none⟩)) ∧ v_ = (.pointer (some ⟨b192, o193, none⟩)) ∧ h_ = [] | 13 => v_ = (.int .i64 xs.kind) ∧ h_ = [] | 14 => v_ = (.bool (decide (xs.kind = 0))) ∧ h_ = [] | 15 => ∃ (v195 : Value) (s196 : List Hp), v_ = v195 ∧ h_ = s196 ∧ (Own 3 1 v195 (withS xm (!(decide (xs.kind = 0))) cu2).length ((withS xm (!(decide (xs.kind = 0))) cu2).map iV) s196) | 16 => ∃ (v195 : Value), m_ 15 = v195 ∧ v_ = v195 ∧ h_ = [] | _ => True) mixed (by kernel_rfl) (flow_has (cs := []) hH181 rfl) ?_ ?_
                              · intro i_ o_ ho_ r' w' G hs_ ht
                                match i_, ho_ with
                                | 0, ho_ =>
                                  obtain rfl := Option.some.inj ho_
                                  have e10 : r' 10 = vc := (ht.was 10 (by kernel_rfl)).trans e184_10
                                  have hG := ht.has.drop
                                  refine o_move (v := vc) e10 ?_
                                  exact ⟨_, ⟨rfl, rfl⟩, hG⟩
                                | 1, ho_ =>
                                  obtain rfl := Option.some.inj ho_
                                  have e1 : r' 1 = v := (ht.was 1 (by kernel_rfl)).trans e184_1
                                  have hG := ht.has.drop
                                  refine o_move (v := v) e1 ?_
                                  exact ⟨_, ⟨rfl, rfl⟩, hG⟩
                                | 2, ho_ =>
                                  obtain rfl := Option.some.inj ho_
                                  have e12 : r' 12 = (.int .i64 (i : Int)) := (ht.was 12 (by kernel_rfl)).trans e184_12
                                  have hG := ht.has.drop
                                  refine o_move (v := (.int .i64 (i : Int))) e12 ?_
                                  exact ⟨_, ⟨rfl, rfl⟩, hG⟩
                                | 3, ho_ =>
                                  obtain rfl := Option.some.inj ho_
                                  obtain ⟨e208, eh1⟩ := (ht.done 1 _ rfl rfl).1
                                  obtain ⟨e209, eh2⟩ := (ht.done 2 _ rfl rfl).1
                                  have hG := ht.has.drop
                                  refine o_indexF saC_len Try.underlying56 ti68 e208 hv rfl e209 (by omega) hxs fun b186 o187 hc188 => ?_
                                  exact ⟨_, ⟨b186, o187, rfl, rfl, hc188⟩, hG⟩
                                | 4, ho_ =>
                                  obtain rfl := Option.some.inj ho_
                                  obtain ⟨b186, o187, e210, eh3, hc188⟩ := (ht.done 3 _ rfl rfl).1
                                  have hG := ht.has.drop
                                  refine o_fieldAddr (k := o187 + 1) (fun _ => by kernel_rfl) e210 ?_
                                  exact ⟨_, ⟨b186, o187, e210, rfl, rfl⟩, hG⟩
                                | 5, ho_ =>
                                  obtain rfl := Option.some.inj ho_
                                  obtain ⟨b186, o187, e210, eh3, hc188⟩ := (ht.done 3 _ rfl rfl).1
                                  obtain ⟨b186_4, o187_4, q4_3, e211, eh4⟩ := (ht.done 4 _ rfl rfl).1
                                  have z_ : b186 = b186_4 := by have z0_ := Eq.trans (Eq.symm e210) q4_3; first | simpa using z0_ | (simp at z0_; first | exact z0_.1 | exact z0_.2)
                                  subst z_
                                  have z_ : o187 = o187_4 := by have z0_ := Eq.trans (Eq.symm e210) q4_3; first | simpa using z0_ | (simp at z0_; first | exact z0_.1 | exact z0_.2)
                                  subst z_
                                  have hG := ht.has.drop
                                  refine o_load1 (v := xs.v) Try.underlying28 rfl e211 hG (ht.fr R (by simp)) (CellsAt.field (k := 1) (ds := [xs.v]) hc188 rfl) ?_
                                  exact ⟨_, ⟨rfl, rfl⟩, hG⟩
                                | 6, ho_ =>
                                  obtain rfl := Option.some.inj ho_
                                  have e21 : r' 21 = (.int .i64 (j : Int)) := (ht.was 21 (by kernel_rfl)).trans e184_21
                                  have hG := ht.has.drop
                                  refine o_move (v := (.int .i64 (j : Int))) e21 ?_
                                  exact ⟨_, ⟨rfl, rfl⟩, hG⟩
                                | 7, ho_ =>
                                  obtain rfl := Option.some.inj ho_
                                  obtain ⟨b186, o187, e210, eh3, hc188⟩ := (ht.done 3 _ rfl rfl).1
                                  obtain ⟨b186_4, o187_4, q4_3, e211, eh4⟩ := (ht.done 4 _ rfl rfl).1
                                  have z_ : b186 = b186_4 := by have z0_ := Eq.trans (Eq.symm e210) q4_3; first | simpa using z0_ | (simp at z0_; first | exact z0_.1 | exact z0_.2)
                                  subst z_
                                  have z_ : o187 = o187_4 := by have z0_ := Eq.trans (Eq.symm e210) q4_3; first | simpa using z0_ | (simp at z0_; first | exact z0_.1 | exact z0_.2)
                                  subst z_
                                  obtain ⟨e212, eh5⟩ := (ht.done 5 _ rfl rfl).1
                                  obtain ⟨e213, eh6⟩ := (ht.done 6 _ rfl rfl).1
                                  have hG := ht.has.drop
                                  refine o_index1 Try.underlying28 ti3 e212 (hok xs (List.mem_of_getElem? hxs)).2.1 e213 (by omega) hxm fun b189 o190 hc191 => ?_
                                  exact ⟨_, ⟨b189, o190, rfl, rfl, hc191⟩, hG⟩
                                | 8, ho_ =>
                                  obtain rfl := Option.some.inj ho_
                                  obtain ⟨b186, o187, e210, eh3, hc188⟩ := (ht.done 3 _ rfl rfl).1
                                  obtain ⟨b186_4, o187_4, q4_3, e211, eh4⟩ := (ht.done 4 _ rfl rfl).1
                                  have z_ : b186 = b186_4 := by have z0_ := Eq.trans (Eq.symm e210) q4_3; first | simpa using z0_ | (simp at z0_; first | exact z0_.1 | exact z0_.2)
                                  subst z_
                                  have z_ : o187 = o187_4 := by have z0_ := Eq.trans (Eq.symm e210) q4_3; first | simpa using z0_ | (simp at z0_; first | exact z0_.1 | exact z0_.2)
                                  subst z_
                                  obtain ⟨b189, o190, e214, eh7, hc191⟩ := (ht.done 7 _ rfl rfl).1
                                  have hG := ht.has.drop
                                  refine o_load1 (v := (.int .i64 xm)) Try.underlying3 rfl e214 hG (ht.fr R (by simp)) hc191 ?_
                                  exact ⟨_, ⟨rfl, rfl⟩, hG⟩
                                | 9, ho_ =>
                                  obtain rfl := Option.some.inj ho_
                                  have e1 : r' 1 = v := (ht.was 1 (by kernel_rfl)).trans e184_1
                                  have hG := ht.has.drop
                                  refine o_move (v := v) e1 ?_
                                  exact ⟨_, ⟨rfl, rfl⟩, hG⟩
                                | 10, ho_ =>
                                  obtain rfl := Option.some.inj ho_
                                  have e12 : r' 12 = (.int .i64 (i : Int)) := (ht.was 12 (by kernel_rfl)).trans e184_12
                                  have hG := ht.has.drop
                                  refine o_move (v := (.int .i64 (i : Int))) e12 ?_
                                  exact ⟨_, ⟨rfl, rfl⟩, hG⟩
                                | 11, ho_ =>
                                  obtain rfl := Option.some.inj ho_
                                  obtain ⟨e216, eh9⟩ := (ht.done 9 _ rfl rfl).1
                                  obtain ⟨e217, eh10⟩ := (ht.done 10 _ rfl rfl).1
                                  have hG := ht.has.drop
                                  refine o_indexF saC_len Try.underlying56 ti68 e216 hv rfl e217 (by omega) hxs fun b192 o193 hc194 => ?_
                                  exact ⟨_, ⟨b192, o193, rfl, rfl, hc194⟩, hG⟩
                                | 12, ho_ =>
                                  obtain rfl := Option.some.inj ho_
                                  obtain ⟨b192, o193, e218, eh11, hc194⟩ := (ht.done 11 _ rfl rfl).1
                                  have hG := ht.has.drop
                                  refine o_fieldAddr (k := o193) (fun _ => by kernel_rfl) e218 ?_
                                  exact ⟨_, ⟨b192, o193, e218, rfl, rfl⟩, hG⟩
                                | 13, ho_ =>
                                  obtain rfl := Option.some.inj ho_
                                  obtain ⟨b192, o193, e218, eh11, hc194⟩ := (ht.done 11 _ rfl rfl).1
                                  obtain ⟨b192_12, o193_12, q12_11, e219, eh12⟩ := (ht.done 12 _ rfl rfl).1
                                  have z_ : b192 = b192_12 := by have z0_ := Eq.trans (Eq.symm e218) q12_11; first | simpa using z0_ | (simp at z0_; first | exact z0_.1 | exact z0_.2)
                                  subst z_
                                  have z_ : o193 = o193_12 := by have z0_ := Eq.trans (Eq.symm e218) q12_11; first | simpa using z0_ | (simp at z0_; first | exact z0_.1 | exact z0_.2)
                                  subst z_
                                  have hG := ht.has.drop
                                  refine o_load1 (v := (.int .i64 xs.kind)) Try.underlying3 rfl e219 hG (ht.fr R (by simp)) (CellsAt.field (k := 0) (ds := [(.int .i64 xs.kind)]) hc194 rfl) ?_
                                  exact ⟨_, ⟨rfl, rfl⟩, hG⟩
                                | 14, ho_ =>
                                  obtain rfl := Option.some.inj ho_
                                  obtain ⟨b192, o193, e218, eh11, hc194⟩ := (ht.done 11 _ rfl rfl).1
                                  obtain ⟨b192_12, o193_12, q12_11, e219, eh12⟩ := (ht.done 12 _ rfl rfl).1
                                  have z_ : b192 = b192_12 := by have z0_ := Eq.trans (Eq.symm e218) q12_11; first | simpa using z0_ | (simp at z0_; first | exact z0_.1 | exact z0_.2)
                                  subst z_
                                  have z_ : o193 = o193_12 := by have z0_ := Eq.trans (Eq.symm e218) q12_11; first | simpa using z0_ | (simp at z0_; first | exact z0_.1 | exact z0_.2)
                                  subst z_
                                  obtain ⟨e220, eh13⟩ := (ht.done 13 _ rfl rfl).1
                                  have hG := ht.has.drop
                                  refine o_eql (a := xs.kind) (b := 0) e220 rfl ?_
                                  exact ⟨_, ⟨rfl, rfl⟩, hG⟩
                                | 15, ho_ =>
                                  obtain rfl := Option.some.inj ho_
                                  obtain ⟨e207, eh0⟩ := (ht.done 0 _ rfl rfl).1
                                  obtain ⟨b186, o187, e210, eh3, hc188⟩ := (ht.done 3 _ rfl rfl).1
                                  obtain ⟨b186_4, o187_4, q4_3, e211, eh4⟩ := (ht.done 4 _ rfl rfl).1
                                  have z_ : b186 = b186_4 := by have z0_ := Eq.trans (Eq.symm e210) q4_3; first | simpa using z0_ | (simp at z0_; first | exact z0_.1 | exact z0_.2)
                                  subst z_
                                  have z_ : o187 = o187_4 := by have z0_ := Eq.trans (Eq.symm e210) q4_3; first | simpa using z0_ | (simp at z0_; first | exact z0_.1 | exact z0_.2)
                                  subst z_
                                  obtain ⟨b189, o190, e214, eh7, hc191⟩ := (ht.done 7 _ rfl rfl).1
                                  obtain ⟨e215, eh8⟩ := (ht.done 8 _ rfl rfl).1
                                  obtain ⟨b192, o193, e218, eh11, hc194⟩ := (ht.done 11 _ rfl rfl).1
                                  obtain ⟨b192_12, o193_12, q12_11, e219, eh12⟩ := (ht.done 12 _ rfl rfl).1
                                  have z_ : b192 = b192_12 := by have z0_ := Eq.trans (Eq.symm e218) q12_11; first | simpa using z0_ | (simp at z0_; first | exact z0_.1 | exact z0_.2)
                                  subst z_
                                  have z_ : o193 = o193_12 := by have z0_ := Eq.trans (Eq.symm e218) q12_11; first | simpa using z0_ | (simp at z0_; first | exact z0_.1 | exact z0_.2)
                                  subst z_
                                  obtain ⟨e221, eh14⟩ := (ht.done 14 _ rfl rfl).1
                                  have hG := ht.has.drop
                                  refine o_callf (vs := #[vc, (.int .i64 xm), (.bool (decide (xs.kind = 0)))]) ca35 rfl (args3 e207 e215 e221) (with_c hG.all (l := cu2) (hoc.sl.mono (ht.fr hc_ (by simp))) (by omega) xm (decide (xs.kind = 0))) ?_
                                  rintro _ w200 ⟨v195, s196, rfl, ho197, hX198⟩
                                  refine ⟨_, rfl, ?_⟩
                                  have hH199 := hX198.of_all1
                                  exact ⟨_, ⟨v195, s196, rfl, rfl, ho197⟩, hH199⟩
                                | 16, ho_ =>
                                  obtain rfl := Option.some.inj ho_
                                  obtain ⟨b186, o187, e210, eh3, hc188⟩ := (ht.done 3 _ rfl rfl).1
                                  obtain ⟨b186_4, o187_4, q4_3, e211, eh4⟩ := (ht.done 4 _ rfl rfl).1
                                  have z_ : b186 = b186_4 := by have z0_ := Eq.trans (Eq.symm e210) q4_3; first | simpa using z0_ | (simp at z0_; first | exact z0_.1 | exact z0_.2)
                                  subst z_
                                  have z_ : o187 = o187_4 := by have z0_ := Eq.trans (Eq.symm e210) q4_3; first | simpa using z0_ | (simp at z0_; first | exact z0_.1 | exact z0_.2)
                                  subst z_
                                  obtain ⟨b189, o190, e214, eh7, hc191⟩ := (ht.done 7 _ rfl rfl).1
                                  obtain ⟨b192, o193, e218, eh11, hc194⟩ := (ht.done 11 _ rfl rfl).1
                                  obtain ⟨b192_12, o193_12, q12_11, e219, eh12⟩ := (ht.done 12 _ rfl rfl).1
                                  have z_ : b192 = b192_12 := by have z0_ := Eq.trans (Eq.symm e218) q12_11; first | simpa using z0_ | (simp at z0_; first | exact z0_.1 | exact z0_.2)
                                  subst z_
                                  have z_ : o193 = o193_12 := by have z0_ := Eq.trans (Eq.symm e218) q12_11; first | simpa using z0_ | (simp at z0_; first | exact z0_.1 | exact z0_.2)
                                  subst z_
                                  obtain ⟨v195, s196, e222, eh15, ho197⟩ := (ht.done 15 _ rfl rfl).1
                                  have hG := ht.has.drop
                                  refine o_assign (v := v195) e222 ?_
                                  exact ⟨_, ⟨v195, e222, rfl, rfl⟩, hG⟩
                                | i_ + 17, ho_ => exact absurd ho_ (by simp)
                              · intro vs201 hs202 w203 hT204 hH205
                                obtain ⟨e0_, eh0_⟩ := hT204 0 _ rfl
                                obtain ⟨e1_, eh1_⟩ := hT204 1 _ rfl
                                obtain ⟨e2_, eh2_⟩ := hT204 2 _ rfl
                                obtain ⟨b186, o187, e3_, eh3_, hc188⟩ := hT204 3 _ rfl
                                obtain ⟨b186_4, o187_4, q4_3, e4_, eh4_⟩ := hT204 4 _ rfl
                                have z_ : b186 = b186_4 := by have z0_ := Eq.trans (Eq.symm e3_) q4_3; first | simpa using z0_ | (simp at z0_; first | exact z0_.1 | exact z0_.2)
                                subst z_
                                have z_ : o187 = o187_4 := by have z0_ := Eq.trans (Eq.symm e3_) q4_3; first | simpa using z0_ | (simp at z0_; first | exact z0_.1 | exact z0_.2)
                                subst z_
                                obtain ⟨e5_, eh5_⟩ := hT204 5 _ rfl
                                obtain ⟨e6_, eh6_⟩ := hT204 6 _ rfl
                                obtain ⟨b189, o190, e7_, eh7_, hc191⟩ := hT204 7 _ rfl
                                obtain ⟨e8_, eh8_⟩ := hT204 8 _ rfl
                                obtain ⟨e9_, eh9_⟩ := hT204 9 _ rfl
                                obtain ⟨e10_, eh10_⟩ := hT204 10 _ rfl
                                obtain ⟨b192, o193, e11_, eh11_, hc194⟩ := hT204 11 _ rfl
                                obtain ⟨b192_12, o193_12, q12_11, e12_, eh12_⟩ := hT204 12 _ rfl
                                have z_ : b192 = b192_12 := by have z0_ := Eq.trans (Eq.symm e11_) q12_11; first | simpa using z0_ | (simp at z0_; first | exact z0_.1 | exact z0_.2)
                                subst z_
                                have z_ : o193 = o193_12 := by have z0_ := Eq.trans (Eq.symm e11_) q12_11; first | simpa using z0_ | (simp at z0_; first | exact z0_.1 | exact z0_.2)
                                subst z_
                                obtain ⟨e13_, eh13_⟩ := hT204 13 _ rfl
                                obtain ⟨e14_, eh14_⟩ := hT204 14 _ rfl
                                obtain ⟨v195, s196, e15_, eh15_, ho197⟩ := hT204 15 _ rfl
                                obtain ⟨v195_16, q16_15, e16_, eh16_⟩ := hT204 16 _ rfl
                                have z_ : v195 = v195_16 := Eq.trans (Eq.symm e15_) q16_15
                                subst z_
                                have hH206 : Has E w203 ([hs_, [Hp.one b23 (.cells #[vs_] 81 (0, 0))], hc_, R] ++ [s196]) := flow_back (cs := [s196]) hH205 (by show (hs202 0 ++ (hs202 1 ++ (hs202 2 ++ (hs202 3 ++ (hs202 4 ++ (hs202 5 ++ (hs202 6 ++ (hs202 7 ++ (hs202 8 ++ (hs202 9 ++ (hs202 10 ++ (hs202 11 ++ (hs202 12 ++ (hs202 13 ++ (hs202 14 ++ (hs202 15 ++ (hs202 16 ++ []))))))))))))))))) = _; rw [eh0_, eh1_, eh2_, eh3_, eh4_, eh5_, eh6_, eh7_, eh8_, eh9_, eh10_, eh11_, eh12_, eh13_, eh14_, eh15_, eh16_]; rfl)
                                generalize hr208 : puts vs201 _ 0 _ = r207
                                have e209_0 : r207 0 = vf := by rw [← hr208]; exact e184_0
                                have e209_1 : r207 1 = v := by rw [← hr208]; exact e184_1
                                have e209_2 : r207 2 = va := by rw [← hr208]; exact e184_2
                                have e209_3 : r207 3 = (.int .i64 fr) := by rw [← hr208]; exact e184_3
                                have e209_9 : r207 9 = (.pointer (some ⟨b23, 0, none⟩)) := by rw [← hr208]; exact e184_9
                                have e209_10 : r207 10 = v195 := by rw [← hr208]; exact e16_
                                have e209_11 : r207 11 = (.int .i64 (i0 : Int)) := by rw [← hr208]; exact e184_11
                                have e209_12 : r207 12 = (.int .i64 (i : Int)) := by rw [← hr208]; exact e184_12
                                have e209_13 : r207 13 = (.bool al) := by rw [← hr208]; exact e184_13
                                have e209_14 : r207 14 = (.int .i64 (k : Int)) := by rw [← hr208]; exact e184_14
                                have e209_15 : r207 15 = vm_ := by rw [← hr208]; exact e184_15
                                have e209_16 : r207 16 = (.int .i64 (k2 : Int)) := by rw [← hr208]; exact e184_16
                                have e209_17 : r207 17 = (.int .i64 (firstS cur)) := by rw [← hr208]; exact e184_17
                                have e209_18 : r207 18 = (.int .i64 (lastS cur)) := by rw [← hr208]; exact e184_18
                                have e209_19 : r207 19 = (.bool (decide (0 < cur.length))) := by rw [← hr208]; exact e184_19
                                have e209_20 : r207 20 = (.int .i64 (cnt + 1)) := by rw [← hr208]; exact rfl
                                have e209_21 : r207 21 = (.int .i64 (j : Int)) := by rw [← hr208]; exact e184_21
                                have e209_39 : r207 39 = (.bool false) := by rw [← hr208]; exact e184_39
                                have e209_46 : r207 46 = (.bool (decide ((i0 : Int) < ((first.length : Nat) : Int)))) := by rw [← hr208]; exact e184_46
                                have e209_58 : r207 58 = (.bool (decide ((i : Int) ≤ ((l.length : Nat) : Int)))) := by rw [← hr208]; exact e184_58
                                have e209_64 : r207 64 = (.bool (decide ((k : Int) < ((ask.length : Nat) : Int)))) := by rw [← hr208]; exact e184_64
                                have e209_79 : r207 79 = (.bool (decide ((k2 : Int) < ((cur.length : Nat) : Int)))) := by rw [← hr208]; exact e184_79
                                have e209_166 : r207 166 = (.bool bz) := by rw [← hr208]; exact e184_166
                                have e209_170 : r207 170 = (.bool (decide ((i : Int) = ((l.length : Nat) : Int)))) := by rw [← hr208]; exact e184_170
                                have e209_177 : r207 177 = (.bool (decide (40 < ((xs.ml.length : Nat) : Int)))) := by rw [← hr208]; exact e184_177
                                have e209_185 : r207 185 = (.bool (decide ((j : Int) < ((xs.ml.length : Nat) : Int)))) := by rw [← hr208]; exact e184_185
                                have e209_204 : r207 204 = (.bool (!((decide (xm ∈ cu2)) == (decide (xs.kind = 0))))) := by rw [← hr208]; exact e184_204
                                refine b_norm ?_
                                refine t_norm (hK161 _ _ ?_)
                                refine c_region ?_
                                refine s_op (o_move (v := (.int .i64 (j : Int))) e209_21 ?_)
                                refine s_op (o_add (a := (j : Int)) (b := 1) rfl rfl (w64 (by omega) (by omega)) ?_)
                                refine s_op (o_assign (v := (.int .i64 ((j : Int) + 1))) rfl ?_)
                                refine s_nil ?_
                                have hH210 : Has E w203 [hs_, [Hp.one b23 (.cells #[vs_] 81 (0, 0))], s196, R] := ((((hH206.front 3 rfl).front 4 rfl).front 3 rfl).front 3 rfl).first 4 rfl
                                refine t_norm ⟨xs.ml.length - (j + 1), _, rfl, ?_, ?_⟩
                                · omega
                                · exact ⟨(j + 1), (cnt + 1), v195, s196, (withS xm (!(decide (xs.kind = 0))) cu2), rfl, hH210, (by omega), (ho197), (with_sorted hcs2), (by have := withS_le1 xm (!(decide (xs.kind = 0))) cu2; omega), (by omega), (by rw [← act_step hcs2 hcn, if_pos (neq_of h185)]), (act_mem hmm (show _ = some xm from hxm)), e209_0, e209_1, e209_2, e209_3, e209_9, e209_10, e209_11, e209_12, e209_13, e209_14, e209_15, e209_16, e209_17, e209_18, e209_19, e209_20, rfl, e209_39, e209_46, e209_58, e209_64, e209_79, e209_166, e209_170, e209_177⟩
                            · -- not: !((decide (xm ∈ cu2)) == (decide (xs.kind = 0)))
                              refine wp_skip ?_
                              refine t_norm (hK162 _ _ ?_)
                              refine c_flow2 [hs_, [Hp.one b23 (.cells #[vs_] 81 (0, 0))], hc_, R] (fun i_ => match i_ with | _ => []) (fun i_ v_ h_ m_ => match i_ with | 0 => v_ = vc ∧ h_ = [] | 1 => v_ = v ∧ h_ = [] | 2 => v_ = (.int .i64 (i : Int)) ∧ h_ = [] | 3 => ∃ (b211 : Nat) (o212 : Nat), v_ = (.pointer (some ⟨b211, o212, none⟩)) ∧ h_ = [] ∧ (CellsAt R b211 o212 [(.int .i64 xs.kind), xs.v]) | 4 => ∃ (b211 : Nat) (o212 : Nat), m_ 3 = (.pointer (some ⟨b211, o212, none⟩)) ∧ v_ = (.pointer (some ⟨b211, o212 + 1, none⟩)) ∧ h_ = [] | 5 => v_ = xs.v ∧ h_ = [] | 6 => v_ = (.int .i64 (j : Int)) ∧ h_ = [] | 7 => ∃ (b214 : Nat) (o215 : Nat), v_ = (.pointer (some ⟨b214, o215, none⟩)) ∧ h_ = [] ∧ (CellsAt R b214 o215 [(.int .i64 xm)]) | 8 => v_ = (.int .i64 xm) ∧ h_ = [] | 9 => v_ = v ∧ h_ = [] | 10 => v_ = (.int .i64 (i : Int)) ∧ h_ = [] | 11 => ∃ (b217 : Nat) (o218 : Nat), v_ = (.pointer (some ⟨b217, o218, none⟩)) ∧ h_ = [] ∧ (CellsAt R b217 o218 [(.int .i64 xs.kind), xs.v]) | 12 => ∃ (b217 : Nat) (o218 : Nat), m_ 11 = (.pointer (some ⟨b217, o218, none⟩)) ∧ v_ = (.pointer (some ⟨b217, o218, none⟩)) ∧ h_ = [] | 13 => v_ = (.int .i64 xs.kind) ∧ h_ = [] | 14 => v_ = (.bool (decide (xs.kind = 0))) ∧ h_ = [] | 15 => ∃ (v220 : Value) (s221 : List Hp), v_ = v220 ∧ h_ = s221 ∧ (Own 3 1 v220 (withS xm (!(decide (xs.kind = 0))) cu2).length ((withS xm (!(decide (xs.kind = 0))) cu2).map iV) s221) | 16 => ∃ (v220 : Value), m_ 15 = v220 ∧ v_ = v220 ∧ h_ = [] | _ => True) mixed (by kernel_rfl) (flow_has (cs := []) hH181 rfl) ?_ ?_
                              · intro i_ o_ ho_ r' w' G hs_ ht
                                match i_, ho_ with
                                | 0, ho_ =>
                                  obtain rfl := Option.some.inj ho_
                                  have e10 : r' 10 = vc := (ht.was 10 (by kernel_rfl)).trans e184_10
                                  have hG := ht.has.drop
                                  refine o_move (v := vc) e10 ?_
                                  exact ⟨_, ⟨rfl, rfl⟩, hG⟩
                                | 1, ho_ =>
                                  obtain rfl := Option.some.inj ho_
                                  have e1 : r' 1 = v := (ht.was 1 (by kernel_rfl)).trans e184_1
                                  have hG := ht.has.drop
                                  refine o_move (v := v) e1 ?_
                                  exact ⟨_, ⟨rfl, rfl⟩, hG⟩
                                | 2, ho_ =>
                                  obtain rfl := Option.some.inj ho_
                                  have e12 : r' 12 = (.int .i64 (i : Int)) := (ht.was 12 (by kernel_rfl)).trans e184_12
                                  have hG := ht.has.drop
                                  refine o_move (v := (.int .i64 (i : Int))) e12 ?_
                                  exact ⟨_, ⟨rfl, rfl⟩, hG⟩
                                | 3, ho_ =>
                                  obtain rfl := Option.some.inj ho_
                                  obtain ⟨e208, eh1⟩ := (ht.done 1 _ rfl rfl).1
                                  obtain ⟨e209, eh2⟩ := (ht.done 2 _ rfl rfl).1
                                  have hG := ht.has.drop
                                  refine o_indexF saC_len Try.underlying56 ti68 e208 hv rfl e209 (by omega) hxs fun b211 o212 hc213 => ?_
                                  exact ⟨_, ⟨b211, o212, rfl, rfl, hc213⟩, hG⟩
                                | 4, ho_ =>
                                  obtain rfl := Option.some.inj ho_
                                  obtain ⟨b211, o212, e210, eh3, hc213⟩ := (ht.done 3 _ rfl rfl).1
                                  have hG := ht.has.drop
                                  refine o_fieldAddr (k := o212 + 1) (fun _ => by kernel_rfl) e210 ?_
                                  exact ⟨_, ⟨b211, o212, e210, rfl, rfl⟩, hG⟩
                                | 5, ho_ =>
                                  obtain rfl := Option.some.inj ho_
                                  obtain ⟨b211, o212, e210, eh3, hc213⟩ := (ht.done 3 _ rfl rfl).1
                                  obtain ⟨b211_4, o212_4, q4_3, e211, eh4⟩ := (ht.done 4 _ rfl rfl).1
                                  have z_ : b211 = b211_4 := by have z0_ := Eq.trans (Eq.symm e210) q4_3; first | simpa using z0_ | (simp at z0_; first | exact z0_.1 | exact z0_.2)
                                  subst z_
                                  have z_ : o212 = o212_4 := by have z0_ := Eq.trans (Eq.symm e210) q4_3; first | simpa using z0_ | (simp at z0_; first | exact z0_.1 | exact z0_.2)
                                  subst z_
                                  have hG := ht.has.drop
                                  refine o_load1 (v := xs.v) Try.underlying28 rfl e211 hG (ht.fr R (by simp)) (CellsAt.field (k := 1) (ds := [xs.v]) hc213 rfl) ?_
                                  exact ⟨_, ⟨rfl, rfl⟩, hG⟩
                                | 6, ho_ =>
                                  obtain rfl := Option.some.inj ho_
                                  have e21 : r' 21 = (.int .i64 (j : Int)) := (ht.was 21 (by kernel_rfl)).trans e184_21
                                  have hG := ht.has.drop
                                  refine o_move (v := (.int .i64 (j : Int))) e21 ?_
                                  exact ⟨_, ⟨rfl, rfl⟩, hG⟩
                                | 7, ho_ =>
                                  obtain rfl := Option.some.inj ho_
                                  obtain ⟨b211, o212, e210, eh3, hc213⟩ := (ht.done 3 _ rfl rfl).1
                                  obtain ⟨b211_4, o212_4, q4_3, e211, eh4⟩ := (ht.done 4 _ rfl rfl).1
                                  have z_ : b211 = b211_4 := by have z0_ := Eq.trans (Eq.symm e210) q4_3; first | simpa using z0_ | (simp at z0_; first | exact z0_.1 | exact z0_.2)
                                  subst z_
                                  have z_ : o212 = o212_4 := by have z0_ := Eq.trans (Eq.symm e210) q4_3; first | simpa using z0_ | (simp at z0_; first | exact z0_.1 | exact z0_.2)
                                  subst z_
                                  obtain ⟨e212, eh5⟩ := (ht.done 5 _ rfl rfl).1
                                  obtain ⟨e213, eh6⟩ := (ht.done 6 _ rfl rfl).1
                                  have hG := ht.has.drop
                                  refine o_index1 Try.underlying28 ti3 e212 (hok xs (List.mem_of_getElem? hxs)).2.1 e213 (by omega) hxm fun b214 o215 hc216 => ?_
                                  exact ⟨_, ⟨b214, o215, rfl, rfl, hc216⟩, hG⟩
                                | 8, ho_ =>
                                  obtain rfl := Option.some.inj ho_
                                  obtain ⟨b211, o212, e210, eh3, hc213⟩ := (ht.done 3 _ rfl rfl).1
                                  obtain ⟨b211_4, o212_4, q4_3, e211, eh4⟩ := (ht.done 4 _ rfl rfl).1
                                  have z_ : b211 = b211_4 := by have z0_ := Eq.trans (Eq.symm e210) q4_3; first | simpa using z0_ | (simp at z0_; first | exact z0_.1 | exact z0_.2)
                                  subst z_
                                  have z_ : o212 = o212_4 := by have z0_ := Eq.trans (Eq.symm e210) q4_3; first | simpa using z0_ | (simp at z0_; first | exact z0_.1 | exact z0_.2)
                                  subst z_
                                  obtain ⟨b214, o215, e214, eh7, hc216⟩ := (ht.done 7 _ rfl rfl).1
                                  have hG := ht.has.drop
                                  refine o_load1 (v := (.int .i64 xm)) Try.underlying3 rfl e214 hG (ht.fr R (by simp)) hc216 ?_
                                  exact ⟨_, ⟨rfl, rfl⟩, hG⟩
                                | 9, ho_ =>
                                  obtain rfl := Option.some.inj ho_
                                  have e1 : r' 1 = v := (ht.was 1 (by kernel_rfl)).trans e184_1
                                  have hG := ht.has.drop
                                  refine o_move (v := v) e1 ?_
                                  exact ⟨_, ⟨rfl, rfl⟩, hG⟩
                                | 10, ho_ =>
                                  obtain rfl := Option.some.inj ho_
                                  have e12 : r' 12 = (.int .i64 (i : Int)) := (ht.was 12 (by kernel_rfl)).trans e184_12
                                  have hG := ht.has.drop
                                  refine o_move (v := (.int .i64 (i : Int))) e12 ?_
                                  exact ⟨_, ⟨rfl, rfl⟩, hG⟩
                                | 11, ho_ =>
                                  obtain rfl := Option.some.inj ho_
                                  obtain ⟨e216, eh9⟩ := (ht.done 9 _ rfl rfl).1
                                  obtain ⟨e217, eh10⟩ := (ht.done 10 _ rfl rfl).1
                                  have hG := ht.has.drop
                                  refine o_indexF saC_len Try.underlying56 ti68 e216 hv rfl e217 (by omega) hxs fun b217 o218 hc219 => ?_
                                  exact ⟨_, ⟨b217, o218, rfl, rfl, hc219⟩, hG⟩
                                | 12, ho_ =>
                                  obtain rfl := Option.some.inj ho_
                                  obtain ⟨b217, o218, e218, eh11, hc219⟩ := (ht.done 11 _ rfl rfl).1
                                  have hG := ht.has.drop
                                  refine o_fieldAddr (k := o218) (fun _ => by kernel_rfl) e218 ?_
                                  exact ⟨_, ⟨b217, o218, e218, rfl, rfl⟩, hG⟩
                                | 13, ho_ =>
                                  obtain rfl := Option.some.inj ho_
                                  obtain ⟨b217, o218, e218, eh11, hc219⟩ := (ht.done 11 _ rfl rfl).1
                                  obtain ⟨b217_12, o218_12, q12_11, e219, eh12⟩ := (ht.done 12 _ rfl rfl).1
                                  have z_ : b217 = b217_12 := by have z0_ := Eq.trans (Eq.symm e218) q12_11; first | simpa using z0_ | (simp at z0_; first | exact z0_.1 | exact z0_.2)
                                  subst z_
                                  have z_ : o218 = o218_12 := by have z0_ := Eq.trans (Eq.symm e218) q12_11; first | simpa using z0_ | (simp at z0_; first | exact z0_.1 | exact z0_.2)
                                  subst z_
                                  have hG := ht.has.drop
                                  refine o_load1 (v := (.int .i64 xs.kind)) Try.underlying3 rfl e219 hG (ht.fr R (by simp)) (CellsAt.field (k := 0) (ds := [(.int .i64 xs.kind)]) hc219 rfl) ?_
                                  exact ⟨_, ⟨rfl, rfl⟩, hG⟩
                                | 14, ho_ =>
                                  obtain rfl := Option.some.inj ho_
                                  obtain ⟨b217, o218, e218, eh11, hc219⟩ := (ht.done 11 _ rfl rfl).1
                                  obtain ⟨b217_12, o218_12, q12_11, e219, eh12⟩ := (ht.done 12 _ rfl rfl).1
                                  have z_ : b217 = b217_12 := by have z0_ := Eq.trans (Eq.symm e218) q12_11; first | simpa using z0_ | (simp at z0_; first | exact z0_.1 | exact z0_.2)
                                  subst z_
                                  have z_ : o218 = o218_12 := by have z0_ := Eq.trans (Eq.symm e218) q12_11; first | simpa using z0_ | (simp at z0_; first | exact z0_.1 | exact z0_.2)
                                  subst z_
                                  obtain ⟨e220, eh13⟩ := (ht.done 13 _ rfl rfl).1
                                  have hG := ht.has.drop
                                  refine o_eql (a := xs.kind) (b := 0) e220 rfl ?_
                                  exact ⟨_, ⟨rfl, rfl⟩, hG⟩
                                | 15, ho_ =>
                                  obtain rfl := Option.some.inj ho_
                                  obtain ⟨e207, eh0⟩ := (ht.done 0 _ rfl rfl).1
                                  obtain ⟨b211, o212, e210, eh3, hc213⟩ := (ht.done 3 _ rfl rfl).1
                                  obtain ⟨b211_4, o212_4, q4_3, e211, eh4⟩ := (ht.done 4 _ rfl rfl).1
                                  have z_ : b211 = b211_4 := by have z0_ := Eq.trans (Eq.symm e210) q4_3; first | simpa using z0_ | (simp at z0_; first | exact z0_.1 | exact z0_.2)
                                  subst z_
                                  have z_ : o212 = o212_4 := by have z0_ := Eq.trans (Eq.symm e210) q4_3; first | simpa using z0_ | (simp at z0_; first | exact z0_.1 | exact z0_.2)
                                  subst z_
                                  obtain ⟨b214, o215, e214, eh7, hc216⟩ := (ht.done 7 _ rfl rfl).1
                                  obtain ⟨e215, eh8⟩ := (ht.done 8 _ rfl rfl).1
                                  obtain ⟨b217, o218, e218, eh11, hc219⟩ := (ht.done 11 _ rfl rfl).1
                                  obtain ⟨b217_12, o218_12, q12_11, e219, eh12⟩ := (ht.done 12 _ rfl rfl).1
                                  have z_ : b217 = b217_12 := by have z0_ := Eq.trans (Eq.symm e218) q12_11; first | simpa using z0_ | (simp at z0_; first | exact z0_.1 | exact z0_.2)
                                  subst z_
                                  have z_ : o218 = o218_12 := by have z0_ := Eq.trans (Eq.symm e218) q12_11; first | simpa using z0_ | (simp at z0_; first | exact z0_.1 | exact z0_.2)
                                  subst z_
                                  obtain ⟨e221, eh14⟩ := (ht.done 14 _ rfl rfl).1
                                  have hG := ht.has.drop
                                  refine o_callf (vs := #[vc, (.int .i64 xm), (.bool (decide (xs.kind = 0)))]) ca35 rfl (args3 e207 e215 e221) (with_c hG.all (l := cu2) (hoc.sl.mono (ht.fr hc_ (by simp))) (by omega) xm (decide (xs.kind = 0))) ?_
                                  rintro _ w225 ⟨v220, s221, rfl, ho222, hX223⟩
                                  refine ⟨_, rfl, ?_⟩
                                  have hH224 := hX223.of_all1
                                  exact ⟨_, ⟨v220, s221, rfl, rfl, ho222⟩, hH224⟩
                                | 16, ho_ =>
                                  obtain rfl := Option.some.inj ho_
                                  obtain ⟨b211, o212, e210, eh3, hc213⟩ := (ht.done 3 _ rfl rfl).1
                                  obtain ⟨b211_4, o212_4, q4_3, e211, eh4⟩ := (ht.done 4 _ rfl rfl).1
                                  have z_ : b211 = b211_4 := by have z0_ := Eq.trans (Eq.symm e210) q4_3; first | simpa using z0_ | (simp at z0_; first | exact z0_.1 | exact z0_.2)
                                  subst z_
                                  have z_ : o212 = o212_4 := by have z0_ := Eq.trans (Eq.symm e210) q4_3; first | simpa using z0_ | (simp at z0_; first | exact z0_.1 | exact z0_.2)
                                  subst z_
                                  obtain ⟨b214, o215, e214, eh7, hc216⟩ := (ht.done 7 _ rfl rfl).1
                                  obtain ⟨b217, o218, e218, eh11, hc219⟩ := (ht.done 11 _ rfl rfl).1
                                  obtain ⟨b217_12, o218_12, q12_11, e219, eh12⟩ := (ht.done 12 _ rfl rfl).1
                                  have z_ : b217 = b217_12 := by have z0_ := Eq.trans (Eq.symm e218) q12_11; first | simpa using z0_ | (simp at z0_; first | exact z0_.1 | exact z0_.2)
                                  subst z_
                                  have z_ : o218 = o218_12 := by have z0_ := Eq.trans (Eq.symm e218) q12_11; first | simpa using z0_ | (simp at z0_; first | exact z0_.1 | exact z0_.2)
                                  subst z_
                                  obtain ⟨v220, s221, e222, eh15, ho222⟩ := (ht.done 15 _ rfl rfl).1
                                  have hG := ht.has.drop
                                  refine o_assign (v := v220) e222 ?_
                                  exact ⟨_, ⟨v220, e222, rfl, rfl⟩, hG⟩
                                | i_ + 17, ho_ => exact absurd ho_ (by simp)
                              · intro vs226 hs227 w228 hT229 hH230
                                obtain ⟨e0_, eh0_⟩ := hT229 0 _ rfl
                                obtain ⟨e1_, eh1_⟩ := hT229 1 _ rfl
                                obtain ⟨e2_, eh2_⟩ := hT229 2 _ rfl
                                obtain ⟨b211, o212, e3_, eh3_, hc213⟩ := hT229 3 _ rfl
                                obtain ⟨b211_4, o212_4, q4_3, e4_, eh4_⟩ := hT229 4 _ rfl
                                have z_ : b211 = b211_4 := by have z0_ := Eq.trans (Eq.symm e3_) q4_3; first | simpa using z0_ | (simp at z0_; first | exact z0_.1 | exact z0_.2)
                                subst z_
                                have z_ : o212 = o212_4 := by have z0_ := Eq.trans (Eq.symm e3_) q4_3; first | simpa using z0_ | (simp at z0_; first | exact z0_.1 | exact z0_.2)
                                subst z_
                                obtain ⟨e5_, eh5_⟩ := hT229 5 _ rfl
                                obtain ⟨e6_, eh6_⟩ := hT229 6 _ rfl
                                obtain ⟨b214, o215, e7_, eh7_, hc216⟩ := hT229 7 _ rfl
                                obtain ⟨e8_, eh8_⟩ := hT229 8 _ rfl
                                obtain ⟨e9_, eh9_⟩ := hT229 9 _ rfl
                                obtain ⟨e10_, eh10_⟩ := hT229 10 _ rfl
                                obtain ⟨b217, o218, e11_, eh11_, hc219⟩ := hT229 11 _ rfl
                                obtain ⟨b217_12, o218_12, q12_11, e12_, eh12_⟩ := hT229 12 _ rfl
                                have z_ : b217 = b217_12 := by have z0_ := Eq.trans (Eq.symm e11_) q12_11; first | simpa using z0_ | (simp at z0_; first | exact z0_.1 | exact z0_.2)
                                subst z_
                                have z_ : o218 = o218_12 := by have z0_ := Eq.trans (Eq.symm e11_) q12_11; first | simpa using z0_ | (simp at z0_; first | exact z0_.1 | exact z0_.2)
                                subst z_
                                obtain ⟨e13_, eh13_⟩ := hT229 13 _ rfl
                                obtain ⟨e14_, eh14_⟩ := hT229 14 _ rfl
                                obtain ⟨v220, s221, e15_, eh15_, ho222⟩ := hT229 15 _ rfl
                                obtain ⟨v220_16, q16_15, e16_, eh16_⟩ := hT229 16 _ rfl
                                have z_ : v220 = v220_16 := Eq.trans (Eq.symm e15_) q16_15
                                subst z_
                                have hH231 : Has E w228 ([hs_, [Hp.one b23 (.cells #[vs_] 81 (0, 0))], hc_, R] ++ [s221]) := flow_back (cs := [s221]) hH230 (by show (hs227 0 ++ (hs227 1 ++ (hs227 2 ++ (hs227 3 ++ (hs227 4 ++ (hs227 5 ++ (hs227 6 ++ (hs227 7 ++ (hs227 8 ++ (hs227 9 ++ (hs227 10 ++ (hs227 11 ++ (hs227 12 ++ (hs227 13 ++ (hs227 14 ++ (hs227 15 ++ (hs227 16 ++ []))))))))))))))))) = _; rw [eh0_, eh1_, eh2_, eh3_, eh4_, eh5_, eh6_, eh7_, eh8_, eh9_, eh10_, eh11_, eh12_, eh13_, eh14_, eh15_, eh16_]; rfl)
                                generalize hr233 : puts vs226 _ 0 _ = r232
                                have e234_0 : r232 0 = vf := by rw [← hr233]; exact e184_0
                                have e234_1 : r232 1 = v := by rw [← hr233]; exact e184_1
                                have e234_2 : r232 2 = va := by rw [← hr233]; exact e184_2
                                have e234_3 : r232 3 = (.int .i64 fr) := by rw [← hr233]; exact e184_3
                                have e234_9 : r232 9 = (.pointer (some ⟨b23, 0, none⟩)) := by rw [← hr233]; exact e184_9
                                have e234_10 : r232 10 = v220 := by rw [← hr233]; exact e16_
                                have e234_11 : r232 11 = (.int .i64 (i0 : Int)) := by rw [← hr233]; exact e184_11
                                have e234_12 : r232 12 = (.int .i64 (i : Int)) := by rw [← hr233]; exact e184_12
                                have e234_13 : r232 13 = (.bool al) := by rw [← hr233]; exact e184_13
                                have e234_14 : r232 14 = (.int .i64 (k : Int)) := by rw [← hr233]; exact e184_14
                                have e234_15 : r232 15 = vm_ := by rw [← hr233]; exact e184_15
                                have e234_16 : r232 16 = (.int .i64 (k2 : Int)) := by rw [← hr233]; exact e184_16
                                have e234_17 : r232 17 = (.int .i64 (firstS cur)) := by rw [← hr233]; exact e184_17
                                have e234_18 : r232 18 = (.int .i64 (lastS cur)) := by rw [← hr233]; exact e184_18
                                have e234_19 : r232 19 = (.bool (decide (0 < cur.length))) := by rw [← hr233]; exact e184_19
                                have e234_20 : r232 20 = (.int .i64 cnt) := by rw [← hr233]; exact e184_20
                                have e234_21 : r232 21 = (.int .i64 (j : Int)) := by rw [← hr233]; exact e184_21
                                have e234_39 : r232 39 = (.bool false) := by rw [← hr233]; exact e184_39
                                have e234_46 : r232 46 = (.bool (decide ((i0 : Int) < ((first.length : Nat) : Int)))) := by rw [← hr233]; exact e184_46
                                have e234_58 : r232 58 = (.bool (decide ((i : Int) ≤ ((l.length : Nat) : Int)))) := by rw [← hr233]; exact e184_58
                                have e234_64 : r232 64 = (.bool (decide ((k : Int) < ((ask.length : Nat) : Int)))) := by rw [← hr233]; exact e184_64
                                have e234_79 : r232 79 = (.bool (decide ((k2 : Int) < ((cur.length : Nat) : Int)))) := by rw [← hr233]; exact e184_79
                                have e234_166 : r232 166 = (.bool bz) := by rw [← hr233]; exact e184_166
                                have e234_170 : r232 170 = (.bool (decide ((i : Int) = ((l.length : Nat) : Int)))) := by rw [← hr233]; exact e184_170
                                have e234_177 : r232 177 = (.bool (decide (40 < ((xs.ml.length : Nat) : Int)))) := by rw [← hr233]; exact e184_177
                                have e234_185 : r232 185 = (.bool (decide ((j : Int) < ((xs.ml.length : Nat) : Int)))) := by rw [← hr233]; exact e184_185
                                have e234_204 : r232 204 = (.bool (!((decide (xm ∈ cu2)) == (decide (xs.kind = 0))))) := by rw [← hr233]; exact e184_204
                                refine b_norm ?_
                                refine t_norm (hK161 _ _ ?_)
                                refine c_region ?_
                                refine s_op (o_move (v := (.int .i64 (j : Int))) e234_21 ?_)
                                refine s_op (o_add (a := (j : Int)) (b := 1) rfl rfl (w64 (by omega) (by omega)) ?_)
                                refine s_op (o_assign (v := (.int .i64 ((j : Int) + 1))) rfl ?_)
                                refine s_nil ?_
                                have hH235 : Has E w228 [hs_, [Hp.one b23 (.cells #[vs_] 81 (0, 0))], s221, R] := ((((hH231.front 3 rfl).front 4 rfl).front 3 rfl).front 3 rfl).first 4 rfl
                                refine t_norm ⟨xs.ml.length - (j + 1), _, rfl, ?_, ?_⟩
                                · omega
                                · exact ⟨(j + 1), cnt, v220, s221, (withS xm (!(decide (xs.kind = 0))) cu2), rfl, hH235, (by omega), (ho222), (with_sorted hcs2), (by have := withS_le1 xm (!(decide (xs.kind = 0))) cu2; omega), (by omega), (by rw [← act_step hcs2 hcn, if_neg (eq_of h185)]), (act_mem hmm (show _ = some xm from hxm)), e234_0, e234_1, e234_2, e234_3, e234_9, e234_10, e234_11, e234_12, e234_13, e234_14, e234_15, e234_16, e234_17, e234_18, e234_19, e234_20, rfl, e234_39, e234_46, e234_58, e234_64, e234_79, e234_166, e234_170, e234_177⟩
                        · -- not: (j : Int) < ((xs.ml.length : Nat) : Int)
                          refine wp_exit ?_
                          refine t_exit (t_exit (x_in (?_)))
                          refine t_norm (hK148 _ _ ?_)
                          refine wp_seq_k fun K236 hK236 => ?_
                          refine c_region ?_
                          refine s_op (o_assign (v := (.int .i64 0)) rfl ?_)
                          refine s_nil ?_
                          refine t_norm (hK236 _ _ ?_)
                          refine wp_seq_k fun K237 hK237 => ?_
                          refine wp_seq_k fun K238 hK238 => ?_
                          refine c_region ?_
                          refine s_op (o_move (v := v) e150_1 ?_)
                          refine s_op (o_move (v := (.int .i64 (i : Int))) e150_12 ?_)
                          refine s_op (o_indexF saC_len Try.underlying56 ti68 rfl hv rfl rfl (by omega) hxs fun b239 o240 hc241 => ?_)
                          refine s_op (o_fieldAddr (k := o240) (fun _ => by kernel_rfl) rfl ?_)
                          refine s_op (o_load1 (v := (.int .i64 xs.kind)) Try.underlying3 rfl rfl hH153 (seg_sub 3 rfl) (CellsAt.field (k := 0) (ds := [(.int .i64 xs.kind)]) hc241 rfl) ?_)
                          refine s_op (o_eql (a := xs.kind) (b := 0) rfl rfl ?_)
                          refine s_nil ?_
                          refine t_norm (hK238 _ _ ?_)
                          refine c_cond rfl (fun h242 => ?_) (fun h242 => ?_)
                          · -- xs.kind = 0
                            refine c_region ?_
                            refine s_op (o_move (v := (.pointer (some ⟨b23, 0, none⟩))) e150_9 ?_)
                            refine s_op (o_move (v := v) e150_1 ?_)
                            refine s_op (o_move (v := (.int .i64 (i : Int))) e150_12 ?_)
                            refine s_op (o_indexF saC_len Try.underlying56 ti68 rfl hv rfl rfl (by omega) hxs fun b243 o244 hc245 => ?_)
                            refine s_op (o_fieldAddr (k := o244 + 1) (fun _ => by kernel_rfl) rfl ?_)
                            refine s_op (o_load1 (v := xs.v) Try.underlying28 rfl rfl hH153 (seg_sub 3 rfl) (CellsAt.field (k := 1) (ds := [xs.v]) hc245 rfl) ?_)
                            refine s_op (o_callf (vs := #[(.pointer (some ⟨b23, 0, none⟩)), xs.v]) ca43 rfl (args2 rfl rfl) (add_c ((hH153.front 1 rfl).front 1 rfl).all2 hos_ hcs ((hok xs (List.mem_of_getElem? hxs)).2.1.mono (seg_sub 1 rfl)) (by omega)) ?_)
                            rintro _ w254 ⟨v246, s247, now248, rfl, ho249, hso250, hm251, hX252⟩
                            refine ⟨_, rfl, ?_⟩
                            have hH253 : Has E w254 [s247, [Hp.one b23 (.cells #[v246] 81 (0, 0))], hc_, R] := hX252.of_all2
                            refine s_op (o_assign (v := (.int .i64 ((now248.length : Int) - (cur.length : Int)))) rfl ?_)
                            refine s_nil ?_
                            refine t_norm (hK237 _ _ ?_)
                            refine wp_seq_k fun K255 hK255 => ?_
                            refine c_region ?_
                            refine s_op (o_move (v := (.int .i64 ((now248.length : Int) - (cur.length : Int)))) rfl ?_)
                            refine s_op (o_move (v := (.int .i64 cnt)) e150_20 ?_)
                            refine s_op (o_neq (a := (now248.length : Int) - (cur.length : Int)) (b := cnt) rfl rfl ?_)
                            refine s_nil ?_
                            refine t_norm (hK255 _ _ ?_)
                            refine c_cond rfl (fun h256 => ?_) (fun h256 => ?_)
                            · -- (now248.length : Int) - (cur.length : Int) ≠ cnt
                              have hk_ : decide (xs.kind = 0) = true := decide_eq_true h242
                              rw [hk_] at hmm hcn
                              rw [show j = xs.ml.length by omega] at hmm
                              have heq2 : cu2 = now248 := act_end_add hcs2 hso250 hmm hm251
                              rw [if_pos rfl, heq2] at hcn
                              exfalso; omega
                            · -- not: (now248.length : Int) - (cur.length : Int) ≠ cnt
                              have hk_ : decide (xs.kind = 0) = true := decide_eq_true h242
                              rw [hk_] at hmm hcn
                              rw [show j = xs.ml.length by omega] at hmm
                              have heq2 : cu2 = now248 := act_end_add hcs2 hso250 hmm hm251
                              rw [if_pos rfl, heq2] at hcn
                              refine wp_skip ?_
                              refine b_norm ?_
                              refine t_norm (hK69 _ _ ?_)
                              refine c_region ?_
                              refine s_op (o_move (v := (.int .i64 (i : Int))) e150_12 ?_)
                              refine s_op (o_add (a := (i : Int)) (b := 1) rfl rfl (w64 (by omega) (by omega)) ?_)
                              refine s_op (o_assign (v := (.int .i64 ((i : Int) + 1))) rfl ?_)
                              refine s_nil ?_
                              refine t_norm ⟨l.length + 1 - (i + 1), _, rfl, ?_, ?_⟩
                              · omega
                              · exact ⟨(i + 1), now248, v246, s247, vc, hc_, rfl, hH253, (by omega), (ho249), (by rw [← heq2]; exact hoc), (hso250), (by rw [← heq2]; omega), e150_0, e150_1, e150_2, e150_3, e150_9, e150_10, e150_11, rfl, e150_39, e150_46⟩
                          · -- not: xs.kind = 0
                            refine c_region ?_
                            refine s_op (o_move (v := (.pointer (some ⟨b23, 0, none⟩))) e150_9 ?_)
                            refine s_op (o_move (v := v) e150_1 ?_)
                            refine s_op (o_move (v := (.int .i64 (i : Int))) e150_12 ?_)
                            refine s_op (o_indexF saC_len Try.underlying56 ti68 rfl hv rfl rfl (by omega) hxs fun b257 o258 hc259 => ?_)
                            refine s_op (o_fieldAddr (k := o258 + 1) (fun _ => by kernel_rfl) rfl ?_)
                            refine s_op (o_load1 (v := xs.v) Try.underlying28 rfl rfl hH153 (seg_sub 3 rfl) (CellsAt.field (k := 1) (ds := [xs.v]) hc259 rfl) ?_)
                            refine s_op (o_callf (vs := #[(.pointer (some ⟨b23, 0, none⟩)), xs.v]) ca44 rfl (args2 rfl rfl) (drop_c ((hH153.front 1 rfl).front 1 rfl).all2 hos_ hcs ((hok xs (List.mem_of_getElem? hxs)).2.1.mono (seg_sub 1 rfl)) (by omega)) ?_)
                            rintro _ w268 ⟨v260, s261, now262, rfl, ho263, hso264, hm265, hX266⟩
                            refine ⟨_, rfl, ?_⟩
                            have hH267 : Has E w268 [s261, [Hp.one b23 (.cells #[v260] 81 (0, 0))], hc_, R] := hX266.of_all2
                            refine s_op (o_assign (v := (.int .i64 ((cur.length : Int) - (now262.length : Int)))) rfl ?_)
                            refine s_nil ?_
                            refine t_norm (hK237 _ _ ?_)
                            refine wp_seq_k fun K269 hK269 => ?_
                            refine c_region ?_
                            refine s_op (o_move (v := (.int .i64 ((cur.length : Int) - (now262.length : Int)))) rfl ?_)
                            refine s_op (o_move (v := (.int .i64 cnt)) e150_20 ?_)
                            refine s_op (o_neq (a := (cur.length : Int) - (now262.length : Int)) (b := cnt) rfl rfl ?_)
                            refine s_nil ?_
                            refine t_norm (hK269 _ _ ?_)
                            refine c_cond rfl (fun h270 => ?_) (fun h270 => ?_)
                            · -- (cur.length : Int) - (now262.length : Int) ≠ cnt
                              have hk_ : decide (xs.kind = 0) = false := decide_eq_false h242
                              rw [hk_] at hmm hcn
                              rw [show j = xs.ml.length by omega] at hmm
                              have heq2 : cu2 = now262 := act_end_drop hcs2 hso264 hmm hm265
                              rw [if_neg (by decide), heq2] at hcn
                              exfalso; omega
                            · -- not: (cur.length : Int) - (now262.length : Int) ≠ cnt
                              have hk_ : decide (xs.kind = 0) = false := decide_eq_false h242
                              rw [hk_] at hmm hcn
                              rw [show j = xs.ml.length by omega] at hmm
                              have heq2 : cu2 = now262 := act_end_drop hcs2 hso264 hmm hm265
                              rw [if_neg (by decide), heq2] at hcn
                              refine wp_skip ?_
                              refine b_norm ?_
                              refine t_norm (hK69 _ _ ?_)
                              refine c_region ?_
                              refine s_op (o_move (v := (.int .i64 (i : Int))) e150_12 ?_)
                              refine s_op (o_add (a := (i : Int)) (b := 1) rfl rfl (w64 (by omega) (by omega)) ?_)
                              refine s_op (o_assign (v := (.int .i64 ((i : Int) + 1))) rfl ?_)
                              refine s_nil ?_
                              refine t_norm ⟨l.length + 1 - (i + 1), _, rfl, ?_, ?_⟩
                              · omega
                              · exact ⟨(i + 1), now262, v260, s261, vc, hc_, rfl, hH267, (by omega), (ho263), (by rw [← heq2]; exact hoc), (hso264), (by rw [← heq2]; omega), e150_0, e150_1, e150_2, e150_3, e150_9, e150_10, e150_11, rfl, e150_39, e150_46⟩
                refine c_region ?_
                refine s_op (o_move (v := (.pointer (some ⟨b23, 0, none⟩))) e92_9 ?_)
                refine s_op (o_callf (vs := #[(.pointer (some ⟨b23, 0, none⟩))]) ca39 rfl (args1 rfl) (list_c ((hH123.front 1 rfl).front 1 rfl).all2 hos_ hcs (by omega)) ?_)
                rintro _ w276 ⟨v271, s272, rfl, hv273, hX274⟩
                refine ⟨_, rfl, ?_⟩
                have hH275 : Has E w276 [s272, hs_, [Hp.one b23 (.cells #[vs_] 81 (0, 0))], hm_, hw2, R] := hX274.of_all3
                refine s_op (o_move (v := vw2) e92_10 ?_)
                refine s_op (o_callf (vs := #[v271, vw2]) ca38 rfl (args2 rfl rfl) (same_c hH275.all (a := cur) (b := cur) (hv273.mono (seg_sub 0 rfl)) (how2.sl.mono (seg_sub 4 rfl))) ?_)
                rintro _ w279 ⟨rfl, hX277⟩
                refine ⟨_, rfl, ?_⟩
                have hH278 := hX277.of_all
                refine s_op (o_not2 (b := decide (cur = cur)) (b' := decide (¬ (cur = cur))) rfl not_dec ?_)
                refine s_op (o_move (v := (.bool (decide (¬ (cur = cur))))) rfl ?_)
                by_cases h280 : ¬ (cur = cur)
                · -- ¬ (cur = cur)
                  exact absurd rfl h280
                · -- not: ¬ (cur = cur)
                  refine s_on 106 rfl (congrArg Value.bool (decide_eq_false h280)) (o_move (v := (.pointer (some ⟨b23, 0, none⟩))) e92_9 ?_)
                  refine s_on 106 rfl (congrArg Value.bool (decide_eq_false h280)) (o_callf (vs := #[(.pointer (some ⟨b23, 0, none⟩))]) ca40 rfl (args1 rfl) (len_c ((hH278.front 2 rfl).front 2 rfl).all2 hos_ hcs) ?_)
                  rintro _ w283 ⟨rfl, hX281⟩
                  refine ⟨_, rfl, ?_⟩
                  have hH282 : Has E w283 [hs_, [Hp.one b23 (.cells #[vs_] 81 (0, 0))], s272, hm_, hw2, R] := hX281.of_all2
                  refine s_on 106 rfl (congrArg Value.bool (decide_eq_false h280)) (o_move (v := vw2) e92_10 ?_)
                  refine s_on 106 rfl (congrArg Value.bool (decide_eq_false h280)) (o_lenS Try.underlying28 rfl how2.sl ?_)
                  refine s_on 106 rfl (congrArg Value.bool (decide_eq_false h280)) (o_neq (a := (cur.length : Int)) (b := ((cur.length : Nat) : Int)) rfl rfl ?_)
                  refine s_op (o_pick_f (u := (.bool (decide ((cur.length : Int) ≠ ((cur.length : Nat) : Int))))) ((rfl : _ = _).trans (congrArg Value.bool (decide_eq_false h280))) rfl ?_)
                  refine s_op (o_move (v := (.bool (decide ((cur.length : Int) ≠ ((cur.length : Nat) : Int))))) rfl ?_)
                  by_cases h284 : (cur.length : Int) ≠ ((cur.length : Nat) : Int)
                  · -- (cur.length : Int) ≠ ((cur.length : Nat) : Int)
                    exact absurd rfl h284
                  · -- not: (cur.length : Int) ≠ ((cur.length : Nat) : Int)
                    refine s_on 113 rfl (congrArg Value.bool (decide_eq_false h284)) (o_move (v := (.pointer (some ⟨b23, 0, none⟩))) e92_9 ?_)
                    refine s_on 113 rfl (congrArg Value.bool (decide_eq_false h284)) (o_move (v := va) e92_2 ?_)
                    refine s_on 113 rfl (congrArg Value.bool (decide_eq_false h284)) (o_callf (vs := #[(.pointer (some ⟨b23, 0, none⟩)), va]) ca41 rfl (args2 rfl rfl) (has_c ((hH282.front 1 rfl).front 1 rfl).all2 hos_ hcs (by omega) (l := ask) (hask.mono (seg_sub 3 rfl))) ?_)
                    rintro _ w287 ⟨rfl, hX285⟩
                    refine ⟨_, rfl, ?_⟩
                    have hH286 : Has E w287 [hs_, [Hp.one b23 (.cells #[vs_] 81 (0, 0))], s272, hm_, hw2, R] := hX285.of_all2
                    refine s_on 113 rfl (congrArg Value.bool (decide_eq_false h284)) (o_move (v := (.bool al)) e92_13 ?_)
                    refine s_on 113 rfl (congrArg Value.bool (decide_eq_false h284)) (o_neqb Try.underlying4 rfl rfl ?_)
                    refine s_op (o_pick_f (u := (.bool (!((decide (∀ a ∈ ask, a ∈ cur)) == al)))) ((rfl : _ = _).trans (congrArg Value.bool (decide_eq_false h284))) rfl ?_)
                    refine s_op (o_move (v := (.bool (!((decide (∀ a ∈ ask, a ∈ cur)) == al)))) rfl ?_)
                    rcases Bool.eq_false_or_eq_true (!((decide (∀ a ∈ ask, a ∈ cur)) == al)) with h288 | h288
                    · -- !((decide (∀ a ∈ ask, a ∈ cur)) == al)
                      rw [hal] at h288
                      unfold allIn at h288
                      simp at h288
                    · -- not: !((decide (∀ a ∈ ask, a ∈ cur)) == al)
                      refine s_on 120 rfl (congrArg Value.bool h288) (o_move (v := (.pointer (some ⟨b23, 0, none⟩))) e92_9 ?_)
                      refine s_on 120 rfl (congrArg Value.bool h288) (o_move (v := (.int .i64 fr)) e92_3 ?_)
                      refine s_on 120 rfl (congrArg Value.bool h288) (o_callf (vs := #[(.pointer (some ⟨b23, 0, none⟩)), (.int .i64 fr)]) ca42 rfl (args2 rfl rfl) (from_c ((hH286.front 1 rfl).front 1 rfl).all2 hos_ hcs (by omega) fr) ?_)
                      rintro _ w294 ⟨v289, s290, rfl, hv291, hX292⟩
                      refine ⟨_, rfl, ?_⟩
                      have hH293 : Has E w294 [s290, hs_, [Hp.one b23 (.cells #[vs_] 81 (0, 0))], s272, hm_, hw2, R] := hX292.of_all3
                      refine s_on 120 rfl (congrArg Value.bool h288) (o_move (v := vm_) e92_15 ?_)
                      refine s_on 120 rfl (congrArg Value.bool h288) (o_callf (vs := #[v289, vm_]) ca38 rfl (args2 rfl rfl) (same_c hH293.all (a := (cur.filter (fun a => decide (fr ≤ a)))) (b := sm) (hv291.mono (seg_sub 0 rfl)) (hom_.sl.mono (seg_sub 4 rfl))) ?_)
                      rintro _ w297 ⟨rfl, hX295⟩
                      refine ⟨_, rfl, ?_⟩
                      have hH296 := hX295.of_all
                      refine s_on 120 rfl (congrArg Value.bool h288) (o_not2 (b := decide ((cur.filter (fun a => decide (fr ≤ a))) = sm)) (b' := decide (¬ ((cur.filter (fun a => decide (fr ≤ a))) = sm))) rfl not_dec ?_)
                      refine s_op (o_pick_f (u := (.bool (decide (¬ ((cur.filter (fun a => decide (fr ≤ a))) = sm))))) ((rfl : _ = _).trans (congrArg Value.bool h288)) rfl ?_)
                      refine s_op (o_move (v := (.bool (decide (¬ ((cur.filter (fun a => decide (fr ≤ a))) = sm))))) rfl ?_)
                      by_cases h298 : ¬ ((cur.filter (fun a => decide (fr ≤ a))) = sm)
                      · -- ¬ ((cur.filter (fun a => decide (fr ≤ a))) = sm)
                        exact absurd hsm.symm h298
                      · -- not: ¬ ((cur.filter (fun a => decide (fr ≤ a))) = sm)
                        refine s_on 128 rfl (congrArg Value.bool (decide_eq_false h298)) (o_move (v := (.bool (decide (0 < cur.length)))) rfl ?_)
                        refine s_on 128 rfl (congrArg Value.bool (decide_eq_false h298)) (o_move (v := vw2) e92_10 ?_)
                        refine s_on 128 rfl (congrArg Value.bool (decide_eq_false h298)) (o_lenS Try.underlying28 rfl how2.sl ?_)
                        refine s_on 128 rfl (congrArg Value.bool (decide_eq_false h298)) (o_gtr (a := ((cur.length : Nat) : Int)) (b := 0) rfl rfl ?_)
                        refine s_on 128 rfl (congrArg Value.bool (decide_eq_false h298)) (o_neqb Try.underlying4 rfl rfl ?_)
                        refine s_op (o_pick_f (u := (.bool (!((decide (0 < cur.length)) == (decide (0 < ((cur.length : Nat) : Int))))))) ((rfl : _ = _).trans (congrArg Value.bool (decide_eq_false h298))) rfl ?_)
                        refine s_op (o_move (v := (.bool (!((decide (0 < cur.length)) == (decide (0 < ((cur.length : Nat) : Int))))))) rfl ?_)
                        rcases Bool.eq_false_or_eq_true (!((decide (0 < cur.length)) == (decide (0 < ((cur.length : Nat) : Int))))) with h299 | h299
                        · -- !((decide (0 < cur.length)) == (decide (0 < ((cur.length : Nat) : Int))))
                          rw [len_pos_b] at h299
                          simp at h299
                        · -- not: !((decide (0 < cur.length)) == (decide (0 < ((cur.length : Nat) : Int))))
                          refine s_on 135 rfl (congrArg Value.bool h299) (o_move (v := (.bool (decide (0 < cur.length)))) rfl ?_)
                          refine s_on 135 rfl (congrArg Value.bool h299) (o_move (v := (.bool (decide (0 < cur.length)))) rfl ?_)
                          by_cases h300 : 0 < cur.length
                          · -- 0 < cur.length
                            refine s_on 137 rfl (congrArg Value.bool (decide_eq_true h300)) (o_move (v := (.int .i64 (firstS cur))) rfl ?_)
                            refine s_on 137 rfl (congrArg Value.bool (decide_eq_true h300)) (o_move (v := vw2) e92_10 ?_)
                            obtain ⟨x304, hx305⟩ : ∃ x_, cur[((0 : Int)).toNat]? = some x_ := get_some (by omega)
                            refine s_on 137 rfl (congrArg Value.bool (decide_eq_true h300)) (o_index1 Try.underlying28 ti3 rfl how2.sl rfl (by omega) hx305 fun b301 o302 hc303 => ?_)
                            refine s_on 137 rfl (congrArg Value.bool (decide_eq_true h300)) (o_load1 (v := (.int .i64 x304)) Try.underlying3 rfl rfl hH296 (seg_sub 5 rfl) hc303 ?_)
                            refine s_on 137 rfl (congrArg Value.bool (decide_eq_true h300)) (o_neq (a := (firstS cur)) (b := x304) rfl rfl ?_)
                            refine s_on 137 rfl (congrArg Value.bool (decide_eq_true h300)) (o_move (v := (.bool (decide ((firstS cur) ≠ x304)))) rfl ?_)
                            by_cases h306 : (firstS cur) ≠ x304
                            · -- (firstS cur) ≠ x304
                              exact absurd (firstS_of (show cur[0]? = some _ from hx305)) h306
                            · -- not: (firstS cur) ≠ x304
                              refine s_on 143 rfl (congrArg Value.bool (decide_eq_false h306)) (o_move (v := (.int .i64 (lastS cur))) rfl ?_)
                              refine s_on 143 rfl (congrArg Value.bool (decide_eq_false h306)) (o_move (v := vw2) e92_10 ?_)
                              refine s_on 143 rfl (congrArg Value.bool (decide_eq_false h306)) (o_move (v := vw2) e92_10 ?_)
                              refine s_on 143 rfl (congrArg Value.bool (decide_eq_false h306)) (o_lenS Try.underlying28 rfl how2.sl ?_)
                              refine s_on 143 rfl (congrArg Value.bool (decide_eq_false h306)) (o_sub (a := ((cur.length : Nat) : Int)) (b := 1) rfl rfl (w64 (by omega) (by omega)) ?_)
                              obtain ⟨x310, hx311⟩ : ∃ x_, cur[(((cur.length : Nat) : Int) - 1).toNat]? = some x_ := get_some (by omega)
                              refine s_on 143 rfl (congrArg Value.bool (decide_eq_false h306)) (o_index1 Try.underlying28 ti3 rfl how2.sl rfl (by omega) hx311 fun b307 o308 hc309 => ?_)
                              refine s_on 143 rfl (congrArg Value.bool (decide_eq_false h306)) (o_load1 (v := (.int .i64 x310)) Try.underlying3 rfl rfl hH296 (seg_sub 5 rfl) hc309 ?_)
                              refine s_on 143 rfl (congrArg Value.bool (decide_eq_false h306)) (o_neq (a := (lastS cur)) (b := x310) rfl rfl ?_)
                              refine s_on 137 rfl (congrArg Value.bool (decide_eq_true h300)) (o_pick_f (u := (.bool (decide ((lastS cur) ≠ x310)))) ((rfl : _ = _).trans (congrArg Value.bool (decide_eq_false h306))) rfl ?_)
                              refine s_on 135 rfl (congrArg Value.bool h299) (o_pick_t (u := (.bool (decide ((lastS cur) ≠ x310)))) ((rfl : _ = _).trans (congrArg Value.bool (decide_eq_true h300))) rfl ?_)
                              refine s_op (o_pick_f (u := (.bool (decide ((lastS cur) ≠ x310)))) ((rfl : _ = _).trans (congrArg Value.bool h299)) rfl ?_)
                              refine s_op (o_move (v := (.bool (decide ((lastS cur) ≠ x310)))) rfl ?_)
                              by_cases h312 : (lastS cur) ≠ x310
                              · -- (lastS cur) ≠ x310
                                exact absurd (lastS_of hx311 (by omega)) h312
                              · -- not: (lastS cur) ≠ x310
                                refine s_on 155 rfl (congrArg Value.bool (decide_eq_false h312)) (o_move (v := (.bool (decide (0 < cur.length)))) rfl ?_)
                                refine s_on 155 rfl (congrArg Value.bool (decide_eq_false h312)) (o_not (b := true) ((rfl : _ = _).trans (congrArg Value.bool (decide_eq_true h300))) ?_)
                                refine s_on 155 rfl (congrArg Value.bool (decide_eq_false h312)) (o_move (v := (.bool false)) rfl ?_)
                                refine s_off (b' := false) 158 rfl rfl rfl ?_
                                refine s_off (b' := false) 158 rfl rfl rfl ?_
                                refine s_off (b' := false) 158 rfl rfl rfl ?_
                                refine s_offu 161 rfl rfl ?_
                                refine s_offu 161 rfl rfl ?_
                                refine s_off (b' := false) 158 rfl rfl rfl ?_
                                refine s_on 155 rfl (congrArg Value.bool (decide_eq_false h312)) (o_pick_f (u := (.bool false)) rfl rfl ?_)
                                refine s_op (o_pick_f (u := (.bool false)) ((rfl : _ = _).trans (congrArg Value.bool (decide_eq_false h312))) rfl ?_)
                                refine s_nil ?_
                                have hH313 : Has E w297 [hs_, [Hp.one b23 (.cells #[vs_] 81 (0, 0))], hw2, R] := ((((hH296.front 6 rfl).front 6 rfl).front 4 rfl).front 4 rfl).first 4 rfl
                                refine t_norm (hJ129 _ _ ⟨false, hH313, (rfl), e92_0, e92_1, e92_2, e92_3, e92_9, e92_10, e92_11, e92_12, e92_13, e92_14, e92_15, e92_16, rfl, rfl, rfl, e92_39, e92_46, e92_58, e92_64, rfl, rfl⟩)
                          · -- not: 0 < cur.length
                            refine s_off (b' := false) 137 rfl (congrArg Value.bool (decide_eq_false h300)) rfl ?_
                            refine s_off (b' := false) 137 rfl (congrArg Value.bool (decide_eq_false h300)) rfl ?_
                            refine s_off (b' := false) 137 rfl (congrArg Value.bool (decide_eq_false h300)) rfl ?_
                            refine s_off (b' := false) 137 rfl (congrArg Value.bool (decide_eq_false h300)) rfl ?_
                            refine s_off (b' := false) 137 rfl (congrArg Value.bool (decide_eq_false h300)) rfl ?_
                            refine s_off (b' := false) 137 rfl (congrArg Value.bool (decide_eq_false h300)) rfl ?_
                            refine s_offu 143 rfl rfl ?_
                            refine s_offu 143 rfl rfl ?_
                            refine s_offu 143 rfl rfl ?_
                            refine s_offu 143 rfl rfl ?_
                            refine s_offu 143 rfl rfl ?_
                            refine s_offu 143 rfl rfl ?_
                            refine s_offu 143 rfl rfl ?_
                            refine s_offu 143 rfl rfl ?_
                            refine s_off (b' := false) 137 rfl (congrArg Value.bool (decide_eq_false h300)) rfl ?_
                            refine s_on 135 rfl (congrArg Value.bool h299) (o_pick_f (u := (.bool false)) ((rfl : _ = _).trans (congrArg Value.bool (decide_eq_false h300))) rfl ?_)
                            refine s_op (o_pick_f (u := (.bool false)) ((rfl : _ = _).trans (congrArg Value.bool h299)) rfl ?_)
                            refine s_op (o_move (v := (.bool false)) rfl ?_)
                            refine s_on 155 rfl rfl (o_move (v := (.bool (decide (0 < cur.length)))) rfl ?_)
                            refine s_on 155 rfl rfl (o_not (b := false) ((rfl : _ = _).trans (congrArg Value.bool (decide_eq_false h300))) ?_)
                            refine s_on 155 rfl rfl (o_move (v := (.bool true)) rfl ?_)
                            refine s_on 158 rfl rfl (o_move (v := (.int .i64 (firstS cur))) rfl ?_)
                            refine s_on 158 rfl rfl (o_neq (a := (firstS cur)) (b := 0) rfl rfl ?_)
                            refine s_on 158 rfl rfl (o_move (v := (.bool (decide ((firstS cur) ≠ 0)))) rfl ?_)
                            by_cases h314 : (firstS cur) ≠ 0
                            · -- (firstS cur) ≠ 0
                              exact absurd (ends_nil (by omega)).1 h314
                            · -- not: (firstS cur) ≠ 0
                              refine s_on 161 rfl (congrArg Value.bool (decide_eq_false h314)) (o_move (v := (.int .i64 (lastS cur))) rfl ?_)
                              refine s_on 161 rfl (congrArg Value.bool (decide_eq_false h314)) (o_neq (a := (lastS cur)) (b := 0) rfl rfl ?_)
                              refine s_on 158 rfl rfl (o_pick_f (u := (.bool (decide ((lastS cur) ≠ 0)))) ((rfl : _ = _).trans (congrArg Value.bool (decide_eq_false h314))) rfl ?_)
                              refine s_on 155 rfl rfl (o_pick_t (u := (.bool (decide ((lastS cur) ≠ 0)))) rfl rfl ?_)
                              refine s_op (o_pick_f (u := (.bool (decide ((lastS cur) ≠ 0)))) rfl rfl ?_)
                              refine s_nil ?_
                              have hH315 : Has E w297 [hs_, [Hp.one b23 (.cells #[vs_] 81 (0, 0))], hw2, R] := ((((hH296.front 6 rfl).front 6 rfl).front 4 rfl).front 4 rfl).first 4 rfl
                              refine t_norm (hJ129 _ _ ⟨(decide ((lastS cur) ≠ 0)), hH315, (decide_eq_false (fun h_ => h_ (ends_nil (by omega)).2)), e92_0, e92_1, e92_2, e92_3, e92_9, e92_10, e92_11, e92_12, e92_13, e92_14, e92_15, e92_16, rfl, rfl, rfl, e92_39, e92_46, e92_58, e92_64, rfl, rfl⟩)
          · -- not: (i : Int) ≤ ((l.length : Nat) : Int)
            exfalso; omega
end Go.Q
