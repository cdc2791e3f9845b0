/-
  Parts of a walk: what functions of the program compute, each told by a theorem.
-/
import Derived.Test.YtagicdbeacmffaaQH
import Derived.Test.YtagicdbeacmffaaQNums
import Derived.Test.YtagicdbeacmffaaQBase
set_option linter.unusedVariables false
set_option linter.unusedSimpArgs false
namespace Go.Q
open Go.Proofs
set_option linter.unusedVariables false
set_option maxRecDepth 100000
attribute [local irreducible] wpList OK Code.wp
set_option maxHeartbeats 4000000 in
theorem cmpNaN_c {E w : World} {R : List Hp} (hH : Has E w [R]) (x : Int) :
    Calls Try.prog 56 #[(.int .i64 x)] w fun e w' => e = .returned (.bool false) ∧ Has E w' [R] := by
  refine c_enter (args := [(.int .i64 x)]) Try.func56 rfl Try.ntmps56 (by simp) ?_
  refine wp_seq_k fun K1 hK1 => ?_
  refine c_region ?_
  refine s_op (o_assign (v := (.bool false)) rfl ?_)
  refine s_nil ?_
  refine t_norm (hK1 _ _ ?_)
  refine wp_seq_k fun K2 hK2 => ?_
  refine c_region ?_
  refine s_op (o_move (v := (.int .i64 x)) rfl ?_)
  refine s_op (o_move (v := (.int .i64 x)) rfl ?_)
  refine s_op (o_neq (a := x) (b := x) rfl rfl ?_)
  refine s_op (o_assign (v := (.bool (decide (x ≠ x)))) rfl ?_)
  refine s_nil ?_
  refine t_norm (hK2 _ _ ?_)
  refine wp_ret ?_
  refine c_ret1 Try.results56 (v := (.bool (decide (x ≠ x)))) rfl ?_
  exact ⟨by simp, hH⟩
set_option maxHeartbeats 4000000 in
theorem slNaN_c {E w : World} {R : List Hp} (hH : Has E w [R]) (x : Int) :
    Calls Try.prog 53 #[(.int .i64 x)] w fun e w' => e = .returned (.bool false) ∧ Has E w' [R] := by
  refine c_enter (args := [(.int .i64 x)]) Try.func53 rfl Try.ntmps53 (by simp) ?_
  refine wp_seq_k fun K1 hK1 => ?_
  refine c_region ?_
  refine s_op (o_assign (v := (.bool false)) rfl ?_)
  refine s_nil ?_
  refine t_norm (hK1 _ _ ?_)
  refine wp_seq_k fun K2 hK2 => ?_
  refine c_region ?_
  refine s_op (o_move (v := (.int .i64 x)) rfl ?_)
  refine s_op (o_move (v := (.int .i64 x)) rfl ?_)
  refine s_op (o_neq (a := x) (b := x) rfl rfl ?_)
  refine s_op (o_assign (v := (.bool (decide (x ≠ x)))) rfl ?_)
  refine s_nil ?_
  refine t_norm (hK2 _ _ ?_)
  refine wp_ret ?_
  refine c_ret1 Try.results53 (v := (.bool (decide (x ≠ x)))) rfl ?_
  exact ⟨by simp, hH⟩
set_option maxHeartbeats 4000000 in
theorem less_c {E w : World} {R : List Hp} (hH : Has E w [R]) (x y : Int) :
    Calls Try.prog 52 #[(.int .i64 x), (.int .i64 y)] w fun e w' => e = .returned (.bool (decide (x < y))) ∧ Has E w' [R] := by
  refine c_enter (args := [(.int .i64 x), (.int .i64 y)]) Try.func52 rfl Try.ntmps52 (by simp) ?_
  refine wp_seq_k fun K1 hK1 => ?_
  refine c_region ?_
  refine s_op (o_assign (v := (.bool false)) rfl ?_)
  refine s_nil ?_
  refine t_norm (hK1 _ _ ?_)
  refine wp_seq_k fun K2 hK2 => ?_
  refine c_region ?_
  refine s_op (o_move (v := (.int .i64 x)) rfl ?_)
  refine s_op (o_callf (vs := #[(.int .i64 x)]) ca56 rfl (args1 rfl) (cmpNaN_c hH.all x) ?_)
  rintro _ w5 ⟨rfl, hX3⟩
  refine ⟨_, rfl, ?_⟩
  have hH4 := hX3.of_all
  refine s_op (o_move (v := (.bool false)) rfl ?_)
  refine s_off (b' := false) 7 rfl rfl rfl ?_
  refine s_off (b' := false) 7 rfl rfl rfl ?_
  refine s_off (b' := false) 7 rfl rfl rfl ?_
  refine s_op (o_pick_f (u := (.bool false)) rfl rfl ?_)
  refine s_op (o_move (v := (.bool false)) rfl ?_)
  refine s_on 12 rfl rfl (o_move (v := (.int .i64 x)) rfl ?_)
  refine s_on 12 rfl rfl (o_move (v := (.int .i64 y)) rfl ?_)
  refine s_on 12 rfl rfl (o_lss (a := x) (b := y) rfl rfl ?_)
  refine s_op (o_pick_f (u := (.bool (decide (x < y)))) rfl rfl ?_)
  refine s_op (o_assign (v := (.bool (decide (x < y)))) rfl ?_)
  refine s_nil ?_
  refine t_norm (hK2 _ _ ?_)
  refine wp_ret ?_
  refine c_ret1 Try.results52 (v := (.bool (decide (x < y)))) rfl ?_
  exact ⟨rfl, hH4⟩
set_option maxHeartbeats 4000000 in
theorem bs_c {E w : World} {R : List Hp} (hH : Has E w [R]) {v : Value} {l : List Int} (hv : Ints R v l) (hs : l.Pairwise (· < ·)) (hl : l.length ≤ 1000000) (x : Int) :
    Calls Try.prog 49 #[v, (.int .i64 x)] w fun e w' => ∃ p : Nat, e = .returned (.tuple #[.int .i64 (p : Int), .bool (decide (x ∈ l))]) ∧ p ≤ l.length ∧ (∀ a ∈ l.take p, a < x) ∧ (∀ a ∈ l.drop p, x ≤ a) ∧ Has E w' [R] := by
  have hn := hv.le
  refine c_enter (args := [v, (.int .i64 x)]) Try.func49 rfl Try.ntmps49 (by simp) ?_
  refine wp_seq_k fun K1 hK1 => ?_
  refine c_region ?_
  refine s_op (o_assign (v := (.int .i64 0)) rfl ?_)
  refine s_op (o_assign (v := (.bool false)) rfl ?_)
  refine s_nil ?_
  refine t_norm (hK1 _ _ ?_)
  refine wp_seq_k fun K2 hK2 => ?_
  refine c_region ?_
  refine s_op (o_move (v := v) rfl ?_)
  refine s_op (o_lenS Try.underlying28 rfl hv ?_)
  refine s_op (o_assign (v := (.int .i64 ((l.length : Nat) : Int))) rfl ?_)
  refine s_nil ?_
  refine t_norm (hK2 _ _ ?_)
  refine wp_seq_k fun K3 hK3 => ?_
  refine c_region ?_
  refine s_op (o_move (v := (.int .i64 ((l.length : Nat) : Int))) rfl ?_)
  refine s_op (o_assign (v := (.int .i64 0)) rfl ?_)
  refine s_op (o_assign (v := (.int .i64 ((l.length : Nat) : Int))) rfl ?_)
  refine s_nil ?_
  refine t_norm (hK3 _ _ ?_)
  refine wp_seq_k fun K4 hK4 => ?_
  refine wp_block ?_
  let I5 : Nat → (Nat → Value) → World → Prop := fun n r w => ∃ (i : Int) (j : Int) (u1_9 u1_13 u1_14 u1_15 u1_16 u1_17 u1_18 u1_19 u1_20 u1_21 u1_22 u1_23 u1_24 u1_25 u1_26 u1_27 u1_28 u1_29 u1_30 : Value), n = (j - i).toNat ∧ r = base [v, (.int .i64 x), undef, undef, (.int .i64 0), (.bool false), (.int .i64 ((l.length : Nat) : Int)), (.int .i64 i), (.int .i64 j), u1_9, v, (.int .i64 ((l.length : Nat) : Int)), (.int .i64 ((l.length : Nat) : Int)), u1_13, u1_14, u1_15, u1_16, u1_17, u1_18, u1_19, u1_20, u1_21, u1_22, u1_23, u1_24, u1_25, u1_26, u1_27, u1_28, u1_29, u1_30, undef, undef, undef, undef, undef, undef, undef, undef, undef, undef, undef, undef, undef, undef, undef, undef, undef, undef, undef, undef, undef, undef, undef] ∧ Has E w [R] ∧ (0 ≤ i) ∧ (i ≤ j) ∧ (j ≤ (l.length : Int)) ∧ (∀ a ∈ l.take i.toNat, a < x) ∧ (∀ a ∈ l.drop j.toNat, x ≤ a)
  rw [show Go.Q.fr 54 _ = Go.Q.fr 54 (base [v, (.int .i64 x), undef, undef, (.int .i64 0), (.bool false), (.int .i64 ((l.length : Nat) : Int)), (.int .i64 0), (.int .i64 (l.length : Int)), undef, v, (.int .i64 ((l.length : Nat) : Int)), (.int .i64 ((l.length : Nat) : Int)), undef, undef, undef, undef, undef, undef, undef, undef, undef, undef, undef, undef, undef, undef, undef, undef, undef, undef, undef, undef, undef, undef, undef, undef, undef, undef, undef, undef, undef, undef, undef, undef, undef, undef, undef, undef, undef, undef, undef, undef, undef]) from fr_lit (by rfl)]
  refine c_loop I5 _ ⟨0, (l.length : Int), undef, undef, undef, undef, undef, undef, undef, undef, undef, undef, undef, undef, undef, undef, undef, undef, undef, undef, undef, rfl, rfl, hH, (by omega), (by omega), (by omega), (by simp), (by simp)⟩ ?_
  rintro n_ r_ w6 ⟨i, j, u1_9, u1_13, u1_14, u1_15, u1_16, u1_17, u1_18, u1_19, u1_20, u1_21, u1_22, u1_23, u1_24, u1_25, u1_26, u1_27, u1_28, u1_29, u1_30, rfl, rfl, hH7, hi0, hij, hj, hlo, hhi⟩
  refine wp_seq_k fun K8 hK8 => ?_
  refine wp_seq_k fun K9 hK9 => ?_
  refine c_region ?_
  refine s_op (o_move (v := (.int .i64 i)) rfl ?_)
  refine s_op (o_move (v := (.int .i64 j)) rfl ?_)
  refine s_op (o_lss (a := i) (b := j) rfl rfl ?_)
  refine s_nil ?_
  refine t_norm (hK9 _ _ ?_)
  refine c_cond rfl (fun h10 => ?_) (fun h10 => ?_)
  · -- i < j
    refine wp_skip ?_
    refine t_norm (hK8 _ _ ?_)
    refine wp_block ?_
    refine wp_seq_k fun K11 hK11 => ?_
    refine c_region ?_
    refine s_op (o_move (v := (.int .i64 i)) rfl ?_)
    refine s_op (o_move (v := (.int .i64 j)) rfl ?_)
    refine s_op (o_add (a := i) (b := j) rfl rfl (w64 (by omega) (by omega)) ?_)
    refine s_op (o_conv (c := (i + j)) Try.underlying3 Try.underlying37 rfl (wu64 (by omega) (by omega)) ?_)
    refine s_op (o_shr (c := (i + j) / 2) rfl rfl (by omega) (shr_lit _ (by omega) rfl) ?_)
    refine s_op (o_conv (c := ((i + j) / 2)) Try.underlying37 Try.underlying3 rfl (w64 (by omega) (by omega)) ?_)
    refine s_op (o_assign (v := (.int .i64 ((i + j) / 2))) rfl ?_)
    refine s_nil ?_
    refine t_norm (hK11 _ _ ?_)
    refine wp_seq_k fun K12 hK12 => ?_
    refine c_region ?_
    refine s_op (o_move (v := v) rfl ?_)
    refine s_op (o_move (v := (.int .i64 ((i + j) / 2))) rfl ?_)
    obtain ⟨x16, hx17⟩ : ∃ x, l[((i + j) / 2).toNat]? = some x := get_some (by omega)
    refine s_op (o_index1 Try.underlying28 ti3 rfl hv rfl (by omega) hx17 fun b13 o14 hc15 => ?_)
    refine s_op (o_load1 (v := (.int .i64 x16)) Try.underlying3 rfl rfl hH7 (seg_sub 0 rfl) hc15 ?_)
    refine s_op (o_move (v := (.int .i64 x)) rfl ?_)
    refine s_op (o_callf (vs := #[(.int .i64 x16), (.int .i64 x)]) ca52 rfl (args2 rfl rfl) (less_c hH7.all x16 x) ?_)
    rintro _ w20 ⟨rfl, hX18⟩
    refine ⟨_, rfl, ?_⟩
    have hH19 := hX18.of_all
    refine s_nil ?_
    refine t_norm (hK12 _ _ ?_)
    refine c_cond rfl (fun h21 => ?_) (fun h21 => ?_)
    · -- x16 < x
      refine c_region ?_
      refine s_op (o_move (v := (.int .i64 ((i + j) / 2))) rfl ?_)
      refine s_op (o_add (a := (i + j) / 2) (b := 1) rfl rfl (w64 (by omega) (by omega)) ?_)
      refine s_op (o_assign (v := (.int .i64 (((i + j) / 2) + 1))) rfl ?_)
      refine s_nil ?_
      refine b_norm ?_
      refine t_norm ⟨(j - (((i + j) / 2) + 1)).toNat, base [v, (.int .i64 x), undef, undef, (.int .i64 0), (.bool false), (.int .i64 ((l.length : Nat) : Int)), (.int .i64 (((i + j) / 2) + 1)), (.int .i64 j), (.int .i64 ((i + j) / 2)), v, (.int .i64 ((l.length : Nat) : Int)), (.int .i64 ((l.length : Nat) : Int)), (.int .i64 i), (.int .i64 j), (.bool (decide (i < j))), (.int .i64 i), (.int .i64 j), (.int .i64 (i + j)), (.int .u64 (i + j)), (.int .u64 ((i + j) / 2)), (.int .i64 ((i + j) / 2)), v, (.int .i64 ((i + j) / 2)), (.pointer (some ⟨b13, o14, none⟩)), (.int .i64 x16), (.int .i64 x), (.bool (decide (x16 < x))), (.int .i64 ((i + j) / 2)), (.int .i64 (((i + j) / 2) + 1)), u1_30, undef, undef, undef, undef, undef, undef, undef, undef, undef, undef, undef, undef, undef, undef, undef, undef, undef, undef, undef, undef, undef, undef, undef], fr_lit (by rfl), ?_, ?_⟩
      · omega
      · exact ⟨(((i + j) / 2) + 1), j, _, _, _, _, _, _, _, _, _, _, _, _, _, _, _, _, _, _, _, rfl, rfl, hH19, (by omega), (by omega), (by omega), (by rw [show (((i + j) / 2) + 1).toNat = ((i + j) / 2).toNat + 1 from by omega]; exact lo_step hs hx17 (by assumption)), (hhi)⟩
    · -- not: x16 < x
      refine c_region ?_
      refine s_op (o_move (v := (.int .i64 ((i + j) / 2))) rfl ?_)
      refine s_op (o_assign (v := (.int .i64 ((i + j) / 2))) rfl ?_)
      refine s_nil ?_
      refine b_norm ?_
      refine t_norm ⟨(((i + j) / 2) - i).toNat, base [v, (.int .i64 x), undef, undef, (.int .i64 0), (.bool false), (.int .i64 ((l.length : Nat) : Int)), (.int .i64 i), (.int .i64 ((i + j) / 2)), (.int .i64 ((i + j) / 2)), v, (.int .i64 ((l.length : Nat) : Int)), (.int .i64 ((l.length : Nat) : Int)), (.int .i64 i), (.int .i64 j), (.bool (decide (i < j))), (.int .i64 i), (.int .i64 j), (.int .i64 (i + j)), (.int .u64 (i + j)), (.int .u64 ((i + j) / 2)), (.int .i64 ((i + j) / 2)), v, (.int .i64 ((i + j) / 2)), (.pointer (some ⟨b13, o14, none⟩)), (.int .i64 x16), (.int .i64 x), (.bool (decide (x16 < x))), u1_28, u1_29, (.int .i64 ((i + j) / 2)), undef, undef, undef, undef, undef, undef, undef, undef, undef, undef, undef, undef, undef, undef, undef, undef, undef, undef, undef, undef, undef, undef, undef], fr_lit (by rfl), ?_, ?_⟩
      · omega
      · exact ⟨i, ((i + j) / 2), _, _, _, _, _, _, _, _, _, _, _, _, _, _, _, _, _, _, _, rfl, rfl, hH19, (by omega), (by omega), (by omega), (hlo), (hi_step hs hx17 (by assumption))⟩
  · -- not: i < j
    refine wp_exit ?_
    refine t_exit (t_exit (x_in (?_)))
    refine t_norm (hK4 _ _ ?_)
    refine wp_seq_k fun K22 hK22 => ?_
    refine c_region ?_
    refine s_op (o_move (v := (.int .i64 i)) rfl ?_)
    refine s_op (o_move (v := (.int .i64 i)) rfl ?_)
    refine s_op (o_move (v := (.int .i64 ((l.length : Nat) : Int))) rfl ?_)
    refine s_op (o_lss (a := i) (b := ((l.length : Nat) : Int)) rfl rfl ?_)
    refine s_op (o_move (v := (.bool (decide (i < ((l.length : Nat) : Int))))) rfl ?_)
    by_cases h23 : i < ((l.length : Nat) : Int)
    · -- i < ((l.length : Nat) : Int)
      refine s_on 35 rfl (congrArg Value.bool (decide_eq_true h23)) (o_move (v := v) rfl ?_)
      refine s_on 35 rfl (congrArg Value.bool (decide_eq_true h23)) (o_move (v := (.int .i64 i)) rfl ?_)
      obtain ⟨x27, hx28⟩ : ∃ x, l[(i).toNat]? = some x := get_some (by omega)
      refine s_on 35 rfl (congrArg Value.bool (decide_eq_true h23)) (o_index1 Try.underlying28 ti3 rfl hv rfl (by omega) hx28 fun b24 o25 hc26 => ?_)
      refine s_on 35 rfl (congrArg Value.bool (decide_eq_true h23)) (o_load1 (v := (.int .i64 x27)) Try.underlying3 rfl rfl hH7 (seg_sub 0 rfl) hc26 ?_)
      refine s_on 35 rfl (congrArg Value.bool (decide_eq_true h23)) (o_move (v := (.int .i64 x)) rfl ?_)
      refine s_on 35 rfl (congrArg Value.bool (decide_eq_true h23)) (o_eql (a := x27) (b := x) rfl rfl ?_)
      refine s_on 35 rfl (congrArg Value.bool (decide_eq_true h23)) (o_move (v := (.bool (decide (x27 = x)))) rfl ?_)
      by_cases h29 : x27 = x
      · -- x27 = x
        refine s_off (b' := true) 42 rfl (congrArg Value.bool (decide_eq_true h29)) rfl ?_
        refine s_off (b' := true) 42 rfl (congrArg Value.bool (decide_eq_true h29)) rfl ?_
        refine s_off (b' := true) 42 rfl (congrArg Value.bool (decide_eq_true h29)) rfl ?_
        refine s_off (b' := true) 42 rfl (congrArg Value.bool (decide_eq_true h29)) rfl ?_
        refine s_off (b' := true) 42 rfl (congrArg Value.bool (decide_eq_true h29)) rfl ?_
        refine s_off (b' := true) 42 rfl (congrArg Value.bool (decide_eq_true h29)) rfl ?_
        refine s_offu 48 rfl rfl ?_
        refine s_offu 48 rfl rfl ?_
        refine s_off (b' := true) 42 rfl (congrArg Value.bool (decide_eq_true h29)) rfl ?_
        refine s_on 35 rfl (congrArg Value.bool (decide_eq_true h23)) (o_pick_t (u := (.bool true)) ((rfl : _ = _).trans (congrArg Value.bool (decide_eq_true h29))) rfl ?_)
        refine s_op (o_pick_t (u := (.bool true)) ((rfl : _ = _).trans (congrArg Value.bool (decide_eq_true h23))) rfl ?_)
        refine s_op (o_assign (v := (.int .i64 i)) rfl ?_)
        refine s_op (o_assign (v := (.bool true)) rfl ?_)
        refine s_nil ?_
        refine t_norm (hK22 _ _ ?_)
        refine wp_ret ?_
        refine c_ret2 Try.results49 (v := (.int .i64 i)) rfl (x := (.bool true)) rfl ?_
        have e : i = j := by omega
        subst e
        have hm : x ∈ l := List.mem_iff_getElem?.2 ⟨i.toNat, by rw [hx28]; congr 1⟩
        exact ⟨i.toNat, by rw [decide_eq_true hm, show ((i.toNat : Nat) : Int) = i from by omega], by omega, hlo, hhi, hH7⟩
      · -- not: x27 = x
        refine s_on 42 rfl (congrArg Value.bool (decide_eq_false h29)) (o_move (v := v) rfl ?_)
        refine s_on 42 rfl (congrArg Value.bool (decide_eq_false h29)) (o_move (v := (.int .i64 i)) rfl ?_)
        refine s_on 42 rfl (congrArg Value.bool (decide_eq_false h29)) (o_index1 Try.underlying28 ti3 rfl hv rfl (by omega) hx28 fun b30 o31 hc32 => ?_)
        refine s_on 42 rfl (congrArg Value.bool (decide_eq_false h29)) (o_load1 (v := (.int .i64 x27)) Try.underlying3 rfl rfl hH7 (seg_sub 0 rfl) hc32 ?_)
        refine s_on 42 rfl (congrArg Value.bool (decide_eq_false h29)) (o_callf (vs := #[(.int .i64 x27)]) ca53 rfl (args1 rfl) (slNaN_c hH7.all x27) ?_)
        rintro _ w35 ⟨rfl, hX33⟩
        refine ⟨_, rfl, ?_⟩
        have hH34 := hX33.of_all
        refine s_on 42 rfl (congrArg Value.bool (decide_eq_false h29)) (o_move (v := (.bool false)) rfl ?_)
        refine s_off (b' := false) 48 rfl rfl rfl ?_
        refine s_off (b' := false) 48 rfl rfl rfl ?_
        refine s_on 42 rfl (congrArg Value.bool (decide_eq_false h29)) (o_pick_f (u := (.bool false)) rfl rfl ?_)
        refine s_on 35 rfl (congrArg Value.bool (decide_eq_true h23)) (o_pick_f (u := (.bool false)) ((rfl : _ = _).trans (congrArg Value.bool (decide_eq_false h29))) rfl ?_)
        refine s_op (o_pick_t (u := (.bool false)) ((rfl : _ = _).trans (congrArg Value.bool (decide_eq_true h23))) rfl ?_)
        refine s_op (o_assign (v := (.int .i64 i)) rfl ?_)
        refine s_op (o_assign (v := (.bool false)) rfl ?_)
        refine s_nil ?_
        refine t_norm (hK22 _ _ ?_)
        refine wp_ret ?_
        refine c_ret2 Try.results49 (v := (.int .i64 i)) rfl (x := (.bool false)) rfl ?_
        have e : i = j := by omega
        subst e
        have hm : x ∉ l := bs_no hs hlo hhi (fun e he => by rw [hx28] at he; cases he; assumption)
        exact ⟨i.toNat, by rw [decide_eq_false hm, show ((i.toNat : Nat) : Int) = i from by omega], by omega, hlo, hhi, hH34⟩
    · -- not: i < ((l.length : Nat) : Int)
      refine s_off (b' := false) 35 rfl (congrArg Value.bool (decide_eq_false h23)) rfl ?_
      refine s_off (b' := false) 35 rfl (congrArg Value.bool (decide_eq_false h23)) rfl ?_
      refine s_off (b' := false) 35 rfl (congrArg Value.bool (decide_eq_false h23)) rfl ?_
      refine s_off (b' := false) 35 rfl (congrArg Value.bool (decide_eq_false h23)) rfl ?_
      refine s_off (b' := false) 35 rfl (congrArg Value.bool (decide_eq_false h23)) rfl ?_
      refine s_off (b' := false) 35 rfl (congrArg Value.bool (decide_eq_false h23)) rfl ?_
      refine s_off (b' := false) 35 rfl (congrArg Value.bool (decide_eq_false h23)) rfl ?_
      refine s_offu 42 rfl rfl ?_
      refine s_offu 42 rfl rfl ?_
      refine s_offu 42 rfl rfl ?_
      refine s_offu 42 rfl rfl ?_
      refine s_offu 42 rfl rfl ?_
      refine s_offu 42 rfl rfl ?_
      refine s_offu 48 rfl rfl ?_
      refine s_offu 48 rfl rfl ?_
      refine s_offu 42 rfl rfl ?_
      refine s_off (b' := false) 35 rfl (congrArg Value.bool (decide_eq_false h23)) rfl ?_
      refine s_op (o_pick_f (u := (.bool false)) ((rfl : _ = _).trans (congrArg Value.bool (decide_eq_false h23))) rfl ?_)
      refine s_op (o_assign (v := (.int .i64 i)) rfl ?_)
      refine s_op (o_assign (v := (.bool false)) rfl ?_)
      refine s_nil ?_
      refine t_norm (hK22 _ _ ?_)
      refine wp_ret ?_
      refine c_ret2 Try.results49 (v := (.int .i64 i)) rfl (x := (.bool false)) rfl ?_
      have e : i = j := by omega
      subst e
      have hm : x ∉ l := bs_no hs hlo hhi (fun e he => by have := (List.getElem?_eq_some_iff.1 he).1; omega)
      exact ⟨i.toNat, by rw [decide_eq_false hm, show ((i.toNat : Nat) : Int) = i from by omega], by omega, hlo, hhi, hH7⟩
set_option maxHeartbeats 4000000 in
theorem ins_end {E w : World} {R hs : List Hp} {v : Value} {l : List Int} {x : Int} {bu : Nat} (hH : Has E w [hs, [Hp.one bu (.cells #[(.int .i64 x)] 3 (0, 0))], R]) (ho : Own 3 1 v l.length (l.map iV) hs) (hl : l.length ≤ 1000000) :
    Calls Try.prog 50 #[v, (.int .i64 (l.length : Int)), (.slice (some ⟨bu, 0, none⟩) 1 1)] w fun e w' => ∃ v' hs', e = .returned v' ∧ Own 3 1 v' (l ++ [x]).length ((l ++ [x]).map iV) hs' ∧ Has E w' [hs', R] := by
  have hu : Ints [Hp.one bu (.cells #[(.int .i64 x)] 3 (0, 0))] (.slice (some ⟨bu, 0, none⟩) 1 1) [x] := sl_lit rfl rfl (by decide)
  refine c_enter (args := [v, (.int .i64 (l.length : Int)), (.slice (some ⟨bu, 0, none⟩) 1 1)]) Try.func50 rfl Try.ntmps50 (by simp) ?_
  refine wp_seq_k fun K1 hK1 => ?_
  refine c_region ?_
  refine s_op (o_assign (v := (.slice none 0 0)) rfl ?_)
  refine s_nil ?_
  refine t_norm (hK1 _ _ ?_)
  refine wp_seq_k fun K2 hK2 => ?_
  refine c_region ?_
  refine s_op (o_move (v := v) rfl ?_)
  refine s_op (o_move (v := (.int .i64 (l.length : Int))) rfl ?_)
  refine s_op (o_sl_l Try.underlying28 ti3 rfl ho.sl rfl (by omega) (by omega) fun v3 hv4 => ?_)
  have hv5 := sl_dropm hv4
  refine s_nil ?_
  refine t_norm (hK2 _ _ ?_)
  refine wp_seq_k fun K6 hK6 => ?_
  refine c_region ?_
  refine s_op (o_move (v := (.slice (some ⟨bu, 0, none⟩) 1 1)) rfl ?_)
  refine s_op (o_lenS Try.underlying28 rfl hu ?_)
  refine s_op (o_assign (v := (.int .i64 ((1 : Nat) : Int))) rfl ?_)
  refine s_nil ?_
  refine t_norm (hK6 _ _ ?_)
  refine wp_seq_k fun K7 hK7 => ?_
  refine wp_seq_k fun K8 hK8 => ?_
  refine c_region ?_
  refine s_op (o_move (v := (.int .i64 ((1 : Nat) : Int))) rfl ?_)
  refine s_op (o_eql (a := ((1 : Nat) : Int)) (b := 0) rfl rfl ?_)
  refine s_nil ?_
  refine t_norm (hK8 _ _ ?_)
  refine c_cond rfl (fun h9 => ?_) (fun h9 => ?_)
  · -- ((1 : Nat) : Int) = 0
    exfalso; omega
  · -- not: ((1 : Nat) : Int) = 0
    refine wp_skip ?_
    refine t_norm (hK7 _ _ ?_)
    refine wp_seq_k fun K10 hK10 => ?_
    refine c_region ?_
    refine s_op (o_move (v := v) rfl ?_)
    refine s_op (o_lenS Try.underlying28 rfl ho.sl ?_)
    refine s_op (o_assign (v := (.int .i64 ((l.length : Nat) : Int))) rfl ?_)
    refine s_nil ?_
    refine t_norm (hK10 _ _ ?_)
    refine wp_seq_k fun K11 hK11 => ?_
    refine wp_seq_k fun K12 hK12 => ?_
    refine c_region ?_
    refine s_op (o_move (v := (.int .i64 (l.length : Int))) rfl ?_)
    refine s_op (o_move (v := (.int .i64 ((l.length : Nat) : Int))) rfl ?_)
    refine s_op (o_eql (a := (l.length : Int)) (b := ((l.length : Nat) : Int)) rfl rfl ?_)
    refine s_nil ?_
    refine t_norm (hK12 _ _ ?_)
    refine c_cond rfl (fun h13 => ?_) (fun h13 => ?_)
    · -- (l.length : Int) = ((l.length : Nat) : Int)
      refine wp_seq_k fun K14 hK14 => ?_
      refine c_region ?_
      refine s_op (o_move (v := v) rfl ?_)
      refine s_op (o_move (v := (.slice (some ⟨bu, 0, none⟩) 1 1)) rfl ?_)
      refine s_op (o_append Try.underlying28 ti3 rfl (by decide) rfl ho rfl hu (hH.front 0 rfl) (seg_sub 0 rfl) (one_iV _) (by simp; omega) (by simp; omega) fun v15 s16 w18 ho17 hH19 => ?_)
      have ho17 : Own 3 1 v15 (l ++ [x]).length ((l ++ [x]).map iV) s16 := ho17.app
      refine s_op (o_assign (v := v15) rfl ?_)
      refine s_nil ?_
      refine t_norm (hK14 _ _ ?_)
      refine wp_ret ?_
      refine t_ret (c_ret1 Try.results50 (v := v15) rfl ?_)
      have hH20 : Has E w18 [s16, R] := ((hH19.front 2 rfl).front 1 rfl).first 2 rfl
      exact ⟨_, _, rfl, ho17, hH20⟩
    · -- not: (l.length : Int) = ((l.length : Nat) : Int)
      exact absurd rfl h13
set_option maxHeartbeats 4000000 in
theorem clone_c {E w : World} {R : List Hp} (hH : Has E w [R]) {p : Option Addr} {cap : Nat} {l : List Int} (hv : Ints R (.slice p l.length cap) l) (hl : l.length ≤ 1000000) :
    Calls Try.prog 48 #[(.slice p l.length cap)] w fun e w' => ∃ v' hs', e = .returned v' ∧ ((p = none ∧ l = []) ∨ Own 3 1 v' l.length (l.map iV) hs') ∧ Ints hs' v' l ∧ Has E w' [hs', R] := by
  refine c_enter (args := [(.slice p l.length cap)]) Try.func48 rfl Try.ntmps48 (by simp) ?_
  refine wp_seq_k fun K1 hK1 => ?_
  refine c_region ?_
  refine s_op (o_assign (v := (.slice none 0 0)) rfl ?_)
  refine s_nil ?_
  refine t_norm (hK1 _ _ ?_)
  refine wp_seq_k fun K2 hK2 => ?_
  refine wp_seq_k fun K3 hK3 => ?_
  refine c_region ?_
  refine s_op (o_move (v := (.slice p l.length cap)) rfl ?_)
  refine s_op (o_snil Try.underlying28 rfl rfl ?_)
  refine s_nil ?_
  refine t_norm (hK3 _ _ ?_)
  refine c_condb rfl (fun h4 => ?_) (fun h4 => ?_)
  · -- p.isNone
    refine wp_seq_k fun K5 hK5 => ?_
    refine c_region ?_
    refine s_op (o_assign (v := (.slice none 0 0)) rfl ?_)
    refine s_nil ?_
    refine t_norm (hK5 _ _ ?_)
    refine wp_ret ?_
    refine t_ret (c_ret1 Try.results48 (v := (.slice none 0 0)) rfl ?_)
    have e0 : l = [] := by
      obtain ⟨q, c, e, h1, h2, h3, h4⟩ := hv
      cases e
      rcases Nat.eq_zero_or_pos l.length with h | h
      · exact List.eq_nil_of_length_eq_zero h
      · obtain ⟨b, o, e, _⟩ := h4 h; subst e; simp at *
    subst e0
    exact ⟨_, _, rfl, .inl ⟨Option.isNone_iff_eq_none.1 h4, rfl⟩, sl_nil 1, Has.nil hH⟩
  · -- not: p.isNone
    refine wp_skip ?_
    refine t_norm (hK2 _ _ ?_)
    refine wp_seq_k fun K6 hK6 => ?_
    refine c_region ?_
    refine s_op (o_buildSlice (ps := #[]) (cells := #[]) Try.underlying28 ti3 (by decide) (parts0) (by kernel_rfl) hH fun b7 w8 hH9 => ?_)
    refine s_op (o_move (v := (.slice p l.length cap)) rfl ?_)
    refine s_op (o_append Try.underlying28 ti3 rfl (by decide) rfl (Own.lit (e := 3) (sz := 1) (n := 0) (b := b7) (cur := #[]) rfl (by decide)) rfl hv (hH9.front 0 rfl) (seg_sub 0 rfl) (one_iV _) (by simp; omega) (by simp; omega) fun v10 s11 w13 ho12 hH14 => ?_)
    have ho12 : Own 3 1 v10 l.length (l.map iV) s11 := Own.app (a := []) ho12
    refine s_op (o_assign (v := v10) rfl ?_)
    refine s_nil ?_
    refine t_norm (hK6 _ _ ?_)
    refine wp_ret ?_
    refine c_ret1 Try.results48 (v := v10) rfl ?_
    exact ⟨_, _, rfl, .inr (by exact ho12), ho12.sl, hH14⟩
end Go.Q
