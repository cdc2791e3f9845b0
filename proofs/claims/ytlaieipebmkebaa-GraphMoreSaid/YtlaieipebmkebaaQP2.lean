/-
  Parts of a walk: what functions of the program compute, each told by a theorem.
-/
import Derived.Test.YtlaieipebmkebaaQH
import Derived.Test.YtlaieipebmkebaaQNums
import Derived.Test.YtlaieipebmkebaaQPBase
set_option linter.unusedVariables false
set_option linter.unusedSimpArgs false
namespace Go.Q
open Go.Proofs
set_option linter.unusedVariables false
set_option maxRecDepth 100000
attribute [local irreducible] wpList OK Code.wp
set_option maxHeartbeats 4000000 in
theorem cmpNaN_c {E w : World} {R : List Hp} (hH : Has E w [R]) (x : Int) :
    Calls Try.prog 36 #[(.int .i64 x)] w fun e w' => e = .returned (.bool false) ∧ Has E w' [R] := by
  refine c_enter (args := [(.int .i64 x)]) Try.func36 rfl Try.ntmps36 (by simp) ?_
  refine wp_seq_k fun K1 hK1 => ?_
  refine c_region ?_
  refine s_op (o_assign (v := (.bool false)) rfl ?_)
  refine s_nil ?_
  refine t_norm (hK1 _ _ ?_)
  refine wp_seq_k fun K2 hK2 => ?_
  refine c_region ?_
  refine s_op (o_move (v := (.int .i64 x)) rfl ?_)
  refine s_op (o_move (v := (.int .i64 x)) rfl ?_)
  refine s_op (o_neq (a := x) (b := x) rfl rfl ?_)
  refine s_op (o_assign (v := (.bool (decide (x ≠ x)))) rfl ?_)
  refine s_nil ?_
  refine t_norm (hK2 _ _ ?_)
  refine wp_ret ?_
  refine c_ret1 Try.results36  (v := (.bool (decide (x ≠ x)))) rfl ?_
  exact ⟨by simp, hH⟩
set_option maxHeartbeats 4000000 in
theorem slNaN_c {E w : World} {R : List Hp} (hH : Has E w [R]) (x : Int) :
    Calls Try.prog 33 #[(.int .i64 x)] w fun e w' => e = .returned (.bool false) ∧ Has E w' [R] := by
  refine c_enter (args := [(.int .i64 x)]) Try.func33 rfl Try.ntmps33 (by simp) ?_
  refine wp_seq_k fun K1 hK1 => ?_
  refine c_region ?_
  refine s_op (o_assign (v := (.bool false)) rfl ?_)
  refine s_nil ?_
  refine t_norm (hK1 _ _ ?_)
  refine wp_seq_k fun K2 hK2 => ?_
  refine c_region ?_
  refine s_op (o_move (v := (.int .i64 x)) rfl ?_)
  refine s_op (o_move (v := (.int .i64 x)) rfl ?_)
  refine s_op (o_neq (a := x) (b := x) rfl rfl ?_)
  refine s_op (o_assign (v := (.bool (decide (x ≠ x)))) rfl ?_)
  refine s_nil ?_
  refine t_norm (hK2 _ _ ?_)
  refine wp_ret ?_
  refine c_ret1 Try.results33  (v := (.bool (decide (x ≠ x)))) rfl ?_
  exact ⟨by simp, hH⟩
set_option maxHeartbeats 4000000 in
theorem less_c {E w : World} {R : List Hp} (hH : Has E w [R]) (x y : Int) :
    Calls Try.prog 32 #[(.int .i64 x), (.int .i64 y)] w fun e w' => e = .returned (.bool (decide (x < y))) ∧ Has E w' [R] := by
  refine c_enter (args := [(.int .i64 x), (.int .i64 y)]) Try.func32 rfl Try.ntmps32 (by simp) ?_
  refine wp_seq_k fun K1 hK1 => ?_
  refine c_region ?_
  refine s_op (o_assign (v := (.bool false)) rfl ?_)
  refine s_nil ?_
  refine t_norm (hK1 _ _ ?_)
  refine wp_seq_k fun K2 hK2 => ?_
  refine c_region ?_
  refine s_op (o_move (v := (.int .i64 x)) rfl ?_)
  refine s_op (o_callf (vs := #[(.int .i64 x)]) ca36 rfl (args1 rfl) (cmpNaN_c hH.all x) ?_)
  rintro _ w5 ⟨rfl, hX3⟩
  refine ⟨_, rfl, ?_⟩
  have hH4 := hX3.of_all
  refine s_op (o_move (v := (.bool false)) rfl ?_)
  refine s_off (b' := false) 7 rfl rfl rfl ?_
  refine s_off (b' := false) 7 rfl rfl rfl ?_
  refine s_off (b' := false) 7 rfl rfl rfl ?_
  refine s_op (o_pick_f (u := (.bool false)) rfl rfl ?_)
  refine s_op (o_move (v := (.bool false)) rfl ?_)
  refine s_on 12 rfl rfl (o_move (v := (.int .i64 x)) rfl ?_)
  refine s_on 12 rfl rfl (o_move (v := (.int .i64 y)) rfl ?_)
  refine s_on 12 rfl rfl (o_lss (a := x) (b := y) rfl rfl ?_)
  refine s_op (o_pick_f (u := (.bool (decide (x < y)))) rfl rfl ?_)
  refine s_op (o_assign (v := (.bool (decide (x < y)))) rfl ?_)
  refine s_nil ?_
  refine t_norm (hK2 _ _ ?_)
  refine wp_ret ?_
  refine c_ret1 Try.results32  (v := (.bool (decide (x < y)))) rfl ?_
  exact ⟨rfl, hH4⟩
set_option maxHeartbeats 4000000 in
theorem bs_c {E w : World} {R : List Hp} (hH : Has E w [R]) {v : Value} {l : List Int} (hv : Ints R v l) (hs : l.Pairwise (· < ·)) (hl : l.length ≤ 1000000) (x : Int) :
    Calls Try.prog 29 #[v, (.int .i64 x)] w fun e w' => ∃ p : Nat, e = .returned (.tuple #[.int .i64 (p : Int), .bool (decide (x ∈ l))]) ∧ p ≤ l.length ∧ (∀ a ∈ l.take p, a < x) ∧ (∀ a ∈ l.drop p, x ≤ a) ∧ Has E w' [R] := by
  have hn := hv.le
  refine c_enter (args := [v, (.int .i64 x)]) Try.func29 rfl Try.ntmps29 (by simp) ?_
  refine wp_seq_k fun K1 hK1 => ?_
  refine c_region ?_
  refine s_op (o_assign (v := (.int .i64 0)) rfl ?_)
  refine s_op (o_assign (v := (.bool false)) rfl ?_)
  refine s_nil ?_
  refine t_norm (hK1 _ _ ?_)
  refine wp_seq_k fun K2 hK2 => ?_
  refine c_region ?_
  refine s_op (o_move (v := v) rfl ?_)
  refine s_op (o_lenS Try.underlying23 rfl hv ?_)
  refine s_op (o_assign (v := (.int .i64 ((l.length : Nat) : Int))) rfl ?_)
  refine s_nil ?_
  refine t_norm (hK2 _ _ ?_)
  refine wp_seq_k fun K3 hK3 => ?_
  refine c_region ?_
  refine s_op (o_move (v := (.int .i64 ((l.length : Nat) : Int))) rfl ?_)
  refine s_op (o_assign (v := (.int .i64 0)) rfl ?_)
  refine s_op (o_assign (v := (.int .i64 ((l.length : Nat) : Int))) rfl ?_)
  refine s_nil ?_
  refine t_norm (hK3 _ _ ?_)
  refine wp_seq_k fun K4 hK4 => ?_
  refine wp_block ?_
  let I6 : Nat → (Nat → Value) → World → Prop := fun n__ r__ w__ => ∃ (i : Int) (j : Int), n__ = (j - i).toNat ∧ Has E w__ [R] ∧ (0 ≤ i) ∧ (i ≤ j) ∧ (j ≤ (l.length : Int)) ∧ (∀ a ∈ l.take i.toNat, a < x) ∧ (∀ a ∈ l.drop j.toNat, x ≤ a) ∧ r__ 0 = v ∧ r__ 1 = (.int .i64 x) ∧ r__ 4 = (.int .i64 0) ∧ r__ 5 = (.bool false) ∧ r__ 6 = (.int .i64 ((l.length : Nat) : Int)) ∧ r__ 7 = (.int .i64 i) ∧ r__ 8 = (.int .i64 j)
  refine c_loop I6 _ ⟨0, (l.length : Int), rfl, hH, (by omega), (by omega), (by omega), (by simp), (by simp), rfl, rfl, rfl, rfl, rfl, rfl, rfl⟩ ?_
  rintro n_ r9 w7 ⟨i, j, rfl, hH8, hi0, hij, hj, hlo, hhi, e5_0, e5_1, e5_4, e5_5, e5_6, e5_7, e5_8⟩
  refine wp_seq_k fun K10 hK10 => ?_
  refine wp_seq_k fun K11 hK11 => ?_
  refine c_region ?_
  refine s_op (o_move (v := (.int .i64 i)) e5_7 ?_)
  refine s_op (o_move (v := (.int .i64 j)) e5_8 ?_)
  refine s_op (o_lss (a := i) (b := j) rfl rfl ?_)
  refine s_nil ?_
  refine t_norm (hK11 _ _ ?_)
  refine c_cond rfl (fun h12 => ?_) (fun h12 => ?_)
  · -- i < j
    refine wp_skip ?_
    refine t_norm (hK10 _ _ ?_)
    refine wp_block ?_
    refine wp_seq_k fun K13 hK13 => ?_
    refine c_region ?_
    refine s_op (o_move (v := (.int .i64 i)) e5_7 ?_)
    refine s_op (o_move (v := (.int .i64 j)) e5_8 ?_)
    refine s_op (o_add (a := i) (b := j) rfl rfl (w64 (by omega) (by omega)) ?_)
    refine s_op (o_conv (c := (i + j)) Try.underlying3 Try.underlying59 rfl (wu64 (by omega) (by omega)) ?_)
    refine s_op (o_shr (c := (i + j) / 2) rfl rfl (by omega) (shr_lit _ (by omega) rfl) ?_)
    refine s_op (o_conv (c := ((i + j) / 2)) Try.underlying59 Try.underlying3 rfl (w64 (by omega) (by omega)) ?_)
    refine s_op (o_assign (v := (.int .i64 ((i + j) / 2))) rfl ?_)
    refine s_nil ?_
    refine t_norm (hK13 _ _ ?_)
    refine wp_seq_k fun K14 hK14 => ?_
    refine c_region ?_
    refine s_op (o_move (v := v) e5_0 ?_)
    refine s_op (o_move (v := (.int .i64 ((i + j) / 2))) rfl ?_)
    obtain ⟨x18, hx19⟩ : ∃ x_, l[((i + j) / 2).toNat]? = some x_ := get_some (by omega)
    refine s_op (o_index1 Try.underlying23 ti3 rfl hv rfl (by omega) hx19 fun b15 o16 hc17 => ?_)
    refine s_op (o_load1 (v := (.int .i64 x18)) Try.underlying3 rfl rfl hH8 (seg_sub 0 rfl) hc17 ?_)
    refine s_op (o_move (v := (.int .i64 x)) e5_1 ?_)
    refine s_op (o_callf (vs := #[(.int .i64 x18), (.int .i64 x)]) ca32 rfl (args2 rfl rfl) (less_c hH8.all x18 x) ?_)
    rintro _ w22 ⟨rfl, hX20⟩
    refine ⟨_, rfl, ?_⟩
    have hH21 := hX20.of_all
    refine s_nil ?_
    refine t_norm (hK14 _ _ ?_)
    refine c_cond rfl (fun h23 => ?_) (fun h23 => ?_)
    · -- x18 < x
      refine c_region ?_
      refine s_op (o_move (v := (.int .i64 ((i + j) / 2))) rfl ?_)
      refine s_op (o_add (a := (i + j) / 2) (b := 1) rfl rfl (w64 (by omega) (by omega)) ?_)
      refine s_op (o_assign (v := (.int .i64 (((i + j) / 2) + 1))) rfl ?_)
      refine s_nil ?_
      refine b_norm ?_
      refine t_norm ⟨(j - (((i + j) / 2) + 1)).toNat, _, rfl, ?_, ?_⟩
      · omega
      · exact ⟨(((i + j) / 2) + 1), j, rfl, hH21, (by omega), (by omega), (by omega), (by rw [show (((i + j) / 2) + 1).toNat = ((i + j) / 2).toNat + 1 from by omega]; exact lo_step hs hx19 (by assumption)), (hhi), e5_0, e5_1, e5_4, e5_5, e5_6, rfl, e5_8⟩
    · -- not: x18 < x
      refine c_region ?_
      refine s_op (o_move (v := (.int .i64 ((i + j) / 2))) rfl ?_)
      refine s_op (o_assign (v := (.int .i64 ((i + j) / 2))) rfl ?_)
      refine s_nil ?_
      refine b_norm ?_
      refine t_norm ⟨(((i + j) / 2) - i).toNat, _, rfl, ?_, ?_⟩
      · omega
      · exact ⟨i, ((i + j) / 2), rfl, hH21, (by omega), (by omega), (by omega), (hlo), (hi_step hs hx19 (by assumption)), e5_0, e5_1, e5_4, e5_5, e5_6, e5_7, rfl⟩
  · -- not: i < j
    refine wp_exit ?_
    refine t_exit (t_exit (x_in (?_)))
    refine t_norm (hK4 _ _ ?_)
    refine wp_seq_k fun K24 hK24 => ?_
    refine c_region ?_
    refine s_op (o_move (v := (.int .i64 i)) e5_7 ?_)
    refine s_op (o_move (v := (.int .i64 i)) e5_7 ?_)
    refine s_op (o_move (v := (.int .i64 ((l.length : Nat) : Int))) e5_6 ?_)
    refine s_op (o_lss (a := i) (b := ((l.length : Nat) : Int)) rfl rfl ?_)
    refine s_op (o_move (v := (.bool (decide (i < ((l.length : Nat) : Int))))) rfl ?_)
    by_cases h25 : i < ((l.length : Nat) : Int)
    · -- i < ((l.length : Nat) : Int)
      refine s_on 35 rfl (congrArg Value.bool (decide_eq_true h25)) (o_move (v := v) e5_0 ?_)
      refine s_on 35 rfl (congrArg Value.bool (decide_eq_true h25)) (o_move (v := (.int .i64 i)) e5_7 ?_)
      obtain ⟨x29, hx30⟩ : ∃ x_, l[(i).toNat]? = some x_ := get_some (by omega)
      refine s_on 35 rfl (congrArg Value.bool (decide_eq_true h25)) (o_index1 Try.underlying23 ti3 rfl hv rfl (by omega) hx30 fun b26 o27 hc28 => ?_)
      refine s_on 35 rfl (congrArg Value.bool (decide_eq_true h25)) (o_load1 (v := (.int .i64 x29)) Try.underlying3 rfl rfl hH8 (seg_sub 0 rfl) hc28 ?_)
      refine s_on 35 rfl (congrArg Value.bool (decide_eq_true h25)) (o_move (v := (.int .i64 x)) e5_1 ?_)
      refine s_on 35 rfl (congrArg Value.bool (decide_eq_true h25)) (o_eql (a := x29) (b := x) rfl rfl ?_)
      refine s_on 35 rfl (congrArg Value.bool (decide_eq_true h25)) (o_move (v := (.bool (decide (x29 = x)))) rfl ?_)
      by_cases h31 : x29 = x
      · -- x29 = x
        refine s_off (b' := true) 42 rfl (congrArg Value.bool (decide_eq_true h31)) rfl ?_
        refine s_off (b' := true) 42 rfl (congrArg Value.bool (decide_eq_true h31)) rfl ?_
        refine s_off (b' := true) 42 rfl (congrArg Value.bool (decide_eq_true h31)) rfl ?_
        refine s_off (b' := true) 42 rfl (congrArg Value.bool (decide_eq_true h31)) rfl ?_
        refine s_off (b' := true) 42 rfl (congrArg Value.bool (decide_eq_true h31)) rfl ?_
        refine s_off (b' := true) 42 rfl (congrArg Value.bool (decide_eq_true h31)) rfl ?_
        refine s_offu 48 rfl rfl ?_
        refine s_offu 48 rfl rfl ?_
        refine s_off (b' := true) 42 rfl (congrArg Value.bool (decide_eq_true h31)) rfl ?_
        refine s_on 35 rfl (congrArg Value.bool (decide_eq_true h25)) (o_pick_t (u := (.bool true)) ((rfl : _ = _).trans (congrArg Value.bool (decide_eq_true h31))) rfl ?_)
        refine s_op (o_pick_t (u := (.bool true)) ((rfl : _ = _).trans (congrArg Value.bool (decide_eq_true h25))) rfl ?_)
        refine s_op (o_assign (v := (.int .i64 i)) rfl ?_)
        refine s_op (o_assign (v := (.bool true)) rfl ?_)
        refine s_nil ?_
        refine t_norm (hK24 _ _ ?_)
        refine wp_ret ?_
        refine c_ret2 Try.results29  (v := (.int .i64 i)) rfl (x := (.bool true)) rfl ?_
        have e : i = j := by omega
        subst e
        have hm : x ∈ l := List.mem_iff_getElem?.2 ⟨i.toNat, by rw [hx30]; congr 1⟩
        exact ⟨i.toNat, by rw [decide_eq_true hm, show ((i.toNat : Nat) : Int) = i from by omega], by omega, hlo, hhi, hH8⟩
      · -- not: x29 = x
        refine s_on 42 rfl (congrArg Value.bool (decide_eq_false h31)) (o_move (v := v) e5_0 ?_)
        refine s_on 42 rfl (congrArg Value.bool (decide_eq_false h31)) (o_move (v := (.int .i64 i)) e5_7 ?_)
        refine s_on 42 rfl (congrArg Value.bool (decide_eq_false h31)) (o_index1 Try.underlying23 ti3 rfl hv rfl (by omega) hx30 fun b32 o33 hc34 => ?_)
        refine s_on 42 rfl (congrArg Value.bool (decide_eq_false h31)) (o_load1 (v := (.int .i64 x29)) Try.underlying3 rfl rfl hH8 (seg_sub 0 rfl) hc34 ?_)
        refine s_on 42 rfl (congrArg Value.bool (decide_eq_false h31)) (o_callf (vs := #[(.int .i64 x29)]) ca33 rfl (args1 rfl) (slNaN_c hH8.all x29) ?_)
        rintro _ w37 ⟨rfl, hX35⟩
        refine ⟨_, rfl, ?_⟩
        have hH36 := hX35.of_all
        refine s_on 42 rfl (congrArg Value.bool (decide_eq_false h31)) (o_move (v := (.bool false)) rfl ?_)
        refine s_off (b' := false) 48 rfl rfl rfl ?_
        refine s_off (b' := false) 48 rfl rfl rfl ?_
        refine s_on 42 rfl (congrArg Value.bool (decide_eq_false h31)) (o_pick_f (u := (.bool false)) rfl rfl ?_)
        refine s_on 35 rfl (congrArg Value.bool (decide_eq_true h25)) (o_pick_f (u := (.bool false)) ((rfl : _ = _).trans (congrArg Value.bool (decide_eq_false h31))) rfl ?_)
        refine s_op (o_pick_t (u := (.bool false)) ((rfl : _ = _).trans (congrArg Value.bool (decide_eq_true h25))) rfl ?_)
        refine s_op (o_assign (v := (.int .i64 i)) rfl ?_)
        refine s_op (o_assign (v := (.bool false)) rfl ?_)
        refine s_nil ?_
        refine t_norm (hK24 _ _ ?_)
        refine wp_ret ?_
        refine c_ret2 Try.results29  (v := (.int .i64 i)) rfl (x := (.bool false)) rfl ?_
        have e : i = j := by omega
        subst e
        have hm : x ∉ l := bs_no hs hlo hhi (fun e he => by rw [hx30] at he; cases he; assumption)
        exact ⟨i.toNat, by rw [decide_eq_false hm, show ((i.toNat : Nat) : Int) = i from by omega], by omega, hlo, hhi, hH36⟩
    · -- not: i < ((l.length : Nat) : Int)
      refine s_off (b' := false) 35 rfl (congrArg Value.bool (decide_eq_false h25)) rfl ?_
      refine s_off (b' := false) 35 rfl (congrArg Value.bool (decide_eq_false h25)) rfl ?_
      refine s_off (b' := false) 35 rfl (congrArg Value.bool (decide_eq_false h25)) rfl ?_
      refine s_off (b' := false) 35 rfl (congrArg Value.bool (decide_eq_false h25)) rfl ?_
      refine s_off (b' := false) 35 rfl (congrArg Value.bool (decide_eq_false h25)) rfl ?_
      refine s_off (b' := false) 35 rfl (congrArg Value.bool (decide_eq_false h25)) rfl ?_
      refine s_off (b' := false) 35 rfl (congrArg Value.bool (decide_eq_false h25)) rfl ?_
      refine s_offu 42 rfl rfl ?_
      refine s_offu 42 rfl rfl ?_
      refine s_offu 42 rfl rfl ?_
      refine s_offu 42 rfl rfl ?_
      refine s_offu 42 rfl rfl ?_
      refine s_offu 42 rfl rfl ?_
      refine s_offu 48 rfl rfl ?_
      refine s_offu 48 rfl rfl ?_
      refine s_offu 42 rfl rfl ?_
      refine s_off (b' := false) 35 rfl (congrArg Value.bool (decide_eq_false h25)) rfl ?_
      refine s_op (o_pick_f (u := (.bool false)) ((rfl : _ = _).trans (congrArg Value.bool (decide_eq_false h25))) rfl ?_)
      refine s_op (o_assign (v := (.int .i64 i)) rfl ?_)
      refine s_op (o_assign (v := (.bool false)) rfl ?_)
      refine s_nil ?_
      refine t_norm (hK24 _ _ ?_)
      refine wp_ret ?_
      refine c_ret2 Try.results29  (v := (.int .i64 i)) rfl (x := (.bool false)) rfl ?_
      have e : i = j := by omega
      subst e
      have hm : x ∉ l := bs_no hs hlo hhi (fun e he => by have := (List.getElem?_eq_some_iff.1 he).1; omega)
      exact ⟨i.toNat, by rw [decide_eq_false hm, show ((i.toNat : Nat) : Int) = i from by omega], by omega, hlo, hhi, hH8⟩
set_option maxHeartbeats 4000000 in
theorem ins_end {E w : World} {R hs : List Hp} {v : Value} {l : List Int} {x : Int} {bu : Nat} (hH : Has E w [hs, [Hp.one bu (.cells #[(.int .i64 x)] 3 (0, 0))], R]) (ho : Own 3 1 v l.length (l.map iV) hs) (hl : l.length ≤ 1000000) :
    Calls Try.prog 30 #[v, (.int .i64 (l.length : Int)), (.slice (some ⟨bu, 0, none⟩) 1 1)] w fun e w' => ∃ v' hs', e = .returned v' ∧ Own 3 1 v' (l ++ [x]).length ((l ++ [x]).map iV) hs' ∧ Has E w' [hs', R] := by
  have hu : Ints [Hp.one bu (.cells #[(.int .i64 x)] 3 (0, 0))] (.slice (some ⟨bu, 0, none⟩) 1 1) [x] := sl_lit rfl rfl (by decide)
  refine c_enter (args := [v, (.int .i64 (l.length : Int)), (.slice (some ⟨bu, 0, none⟩) 1 1)]) Try.func30 rfl Try.ntmps30 (by simp) ?_
  refine wp_seq_k fun K1 hK1 => ?_
  refine c_region ?_
  refine s_op (o_assign (v := (.slice none 0 0)) rfl ?_)
  refine s_nil ?_
  refine t_norm (hK1 _ _ ?_)
  refine wp_seq_k fun K2 hK2 => ?_
  refine c_region ?_
  refine s_op (o_move (v := v) rfl ?_)
  refine s_op (o_move (v := (.int .i64 (l.length : Int))) rfl ?_)
  refine s_op (o_sl_l Try.underlying23 ti3 rfl ho.sl rfl (by omega) (by omega) fun v3 hv4 => ?_)
  have hv5 := sl_dropm hv4
  refine s_nil ?_
  refine t_norm (hK2 _ _ ?_)
  refine wp_seq_k fun K6 hK6 => ?_
  refine c_region ?_
  refine s_op (o_move (v := (.slice (some ⟨bu, 0, none⟩) 1 1)) rfl ?_)
  refine s_op (o_lenS Try.underlying23 rfl hu ?_)
  refine s_op (o_assign (v := (.int .i64 ((1 : Nat) : Int))) rfl ?_)
  refine s_nil ?_
  refine t_norm (hK6 _ _ ?_)
  refine wp_seq_k fun K7 hK7 => ?_
  refine wp_seq_k fun K8 hK8 => ?_
  refine c_region ?_
  refine s_op (o_move (v := (.int .i64 ((1 : Nat) : Int))) rfl ?_)
  refine s_op (o_eql (a := ((1 : Nat) : Int)) (b := 0) rfl rfl ?_)
  refine s_nil ?_
  refine t_norm (hK8 _ _ ?_)
  refine c_cond rfl (fun h9 => ?_) (fun h9 => ?_)
  · -- ((1 : Nat) : Int) = 0
    exfalso; omega
  · -- not: ((1 : Nat) : Int) = 0
    refine wp_skip ?_
    refine t_norm (hK7 _ _ ?_)
    refine wp_seq_k fun K10 hK10 => ?_
    refine c_region ?_
    refine s_op (o_move (v := v) rfl ?_)
    refine s_op (o_lenS Try.underlying23 rfl ho.sl ?_)
    refine s_op (o_assign (v := (.int .i64 ((l.length : Nat) : Int))) rfl ?_)
    refine s_nil ?_
    refine t_norm (hK10 _ _ ?_)
    refine wp_seq_k fun K11 hK11 => ?_
    refine wp_seq_k fun K12 hK12 => ?_
    refine c_region ?_
    refine s_op (o_move (v := (.int .i64 (l.length : Int))) rfl ?_)
    refine s_op (o_move (v := (.int .i64 ((l.length : Nat) : Int))) rfl ?_)
    refine s_op (o_eql (a := (l.length : Int)) (b := ((l.length : Nat) : Int)) rfl rfl ?_)
    refine s_nil ?_
    refine t_norm (hK12 _ _ ?_)
    refine c_cond rfl (fun h13 => ?_) (fun h13 => ?_)
    · -- (l.length : Int) = ((l.length : Nat) : Int)
      refine wp_seq_k fun K14 hK14 => ?_
      refine c_region ?_
      refine s_op (o_move (v := v) rfl ?_)
      refine s_op (o_move (v := (.slice (some ⟨bu, 0, none⟩) 1 1)) rfl ?_)
      refine s_op (o_append Try.underlying23 ti3 rfl (by decide) rfl ho rfl hu (hH.front 0 rfl) (seg_sub 0 rfl) (one_iV _) (by simp; omega) (by simp; omega) fun v15 s16 w18 ho17 hH19 => ?_)
      have ho17 : Own 3 1 v15 (l ++ [x]).length ((l ++ [x]).map iV) s16 := ho17.app
      refine s_op (o_assign (v := v15) rfl ?_)
      refine s_nil ?_
      refine t_norm (hK14 _ _ ?_)
      refine wp_ret ?_
      refine t_ret (c_ret1 Try.results30  (v := v15) rfl ?_)
      have hH20 : Has E w18 [s16, R] := ((hH19.front 2 rfl).front 1 rfl).first 2 rfl
      exact ⟨_, _, rfl, ho17, hH20⟩
    · -- not: (l.length : Int) = ((l.length : Nat) : Int)
      exact absurd rfl h13
set_option maxHeartbeats 4000000 in
theorem clone_c {E w : World} {R : List Hp} (hH : Has E w [R]) {p : Option Addr} {cap : Nat} {l : List Int} (hv : Ints R (.slice p l.length cap) l) (hl : l.length ≤ 1000000) :
    Calls Try.prog 24 #[(.slice p l.length cap)] w fun e w' => ∃ v' hs', e = .returned v' ∧ ((p = none ∧ l = []) ∨ Own 3 1 v' l.length (l.map iV) hs') ∧ Ints hs' v' l ∧ Has E w' [hs', R] := by
  refine c_enter (args := [(.slice p l.length cap)]) Try.func24 rfl Try.ntmps24 (by simp) ?_
  refine wp_seq_k fun K1 hK1 => ?_
  refine c_region ?_
  refine s_op (o_assign (v := (.slice none 0 0)) rfl ?_)
  refine s_nil ?_
  refine t_norm (hK1 _ _ ?_)
  refine wp_seq_k fun K2 hK2 => ?_
  refine wp_seq_k fun K3 hK3 => ?_
  refine c_region ?_
  refine s_op (o_move (v := (.slice p l.length cap)) rfl ?_)
  refine s_op (o_snil Try.underlying23 rfl rfl ?_)
  refine s_nil ?_
  refine t_norm (hK3 _ _ ?_)
  refine c_condb rfl (fun h4 => ?_) (fun h4 => ?_)
  · -- p.isNone
    refine wp_seq_k fun K5 hK5 => ?_
    refine c_region ?_
    refine s_op (o_assign (v := (.slice none 0 0)) rfl ?_)
    refine s_nil ?_
    refine t_norm (hK5 _ _ ?_)
    refine wp_ret ?_
    refine t_ret (c_ret1 Try.results24  (v := (.slice none 0 0)) rfl ?_)
    have e0 : l = [] := by
      obtain ⟨q, c, e, h1, h2, h3, h4⟩ := hv
      cases e
      rcases Nat.eq_zero_or_pos l.length with h | h
      · exact List.eq_nil_of_length_eq_zero h
      · obtain ⟨b, o, e, _⟩ := h4 h; subst e; simp at *
    subst e0
    exact ⟨_, _, rfl, .inl ⟨Option.isNone_iff_eq_none.1 h4, rfl⟩, sl_nil 1, Has.nil hH⟩
  · -- not: p.isNone
    refine wp_skip ?_
    refine t_norm (hK2 _ _ ?_)
    refine wp_seq_k fun K6 hK6 => ?_
    refine c_region ?_
    refine s_op (o_buildSlice (ps := #[]) (cells := #[]) Try.underlying23 ti3 (by decide) (parts0) (by kernel_rfl) hH fun b7 w8 hH9 => ?_)
    refine s_op (o_move (v := (.slice p l.length cap)) rfl ?_)
    refine s_op (o_append Try.underlying23 ti3 rfl (by decide) rfl (Own.lit (e := 3) (sz := 1) (n := 0) (b := b7) (cur := #[]) rfl (by decide)) rfl hv (hH9.front 0 rfl) (seg_sub 0 rfl) (one_iV _) (by simp; omega) (by simp; omega) fun v10 s11 w13 ho12 hH14 => ?_)
    have ho12 : Own 3 1 v10 l.length (l.map iV) s11 := Own.app (a := []) ho12
    refine s_op (o_assign (v := v10) rfl ?_)
    refine s_nil ?_
    refine t_norm (hK6 _ _ ?_)
    refine wp_ret ?_
    refine c_ret1 Try.results24  (v := v10) rfl ?_
    exact ⟨_, _, rfl, .inr (by exact ho12), ho12.sl, hH14⟩
end Go.Q
