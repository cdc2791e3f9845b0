/-
  Parts of a walk: what functions of the program compute, each told by a theorem.
-/
import Derived.Test.YtagicdbeacmffaaQI
import Derived.Test.YtagicdbeacmffaaQNums
import Derived.Test.YtagicdbeacmffaaQBase
namespace Go.Q
set_option linter.unusedSimpArgs false
open Go.Proofs
set_option linter.unusedVariables false
set_option maxRecDepth 100000
attribute [local irreducible] wpList OK Code.wp
set_option maxHeartbeats 4000000 in
theorem lenN_c {E w : World} {R : List Hp} (hH : Has E w [R]) :
    Calls Try.prog 40 #[(.pointer none)] w fun e w' => e = .returned (.int .i64 0) ∧ Has E w' [R] := by
  refine c_enter (args := [(.pointer none)]) Try.func40 rfl Try.ntmps40 (by simp) ?_
  refine wp_seq_k fun K1 hK1 => ?_
  refine c_region ?_
  refine s_op (o_assign (v := (.int .i64 0)) rfl ?_)
  refine s_nil ?_
  refine t_norm (hK1 _ _ ?_)
  refine wp_seq_k fun K2 hK2 => ?_
  refine wp_seq_k fun K3 hK3 => ?_
  refine c_region ?_
  refine s_op (o_move (v := (.pointer none)) rfl ?_)
  refine s_op (o_pnil (p := none) Try.underlying57 rfl rfl ?_)
  refine s_nil ?_
  refine t_norm (hK3 _ _ ?_)
  refine c_true rfl rfl ?_
  refine wp_seq_k fun K4 hK4 => ?_
  refine c_region ?_
  refine s_op (o_assign (v := (.int .i64 0)) rfl ?_)
  refine s_nil ?_
  refine t_norm (hK4 _ _ ?_)
  refine wp_ret ?_
  refine t_ret (c_ret1 Try.results40 (v := (.int .i64 0)) rfl ?_)
  exact ⟨rfl, hH⟩
set_option maxHeartbeats 4000000 in
theorem addN_c {E w : World} {R : List Hp} (hH : Has E w [R]) {vl : Value} {l : List Int} (hv : Ints R vl l) :
    Calls Try.prog 43 #[(.pointer none), vl] w fun e w' => e = .returned (.int .i64 0) ∧ Has E w' [R] := by
  refine c_enter (args := [(.pointer none), vl]) Try.func43 rfl Try.ntmps43 (by simp) ?_
  refine wp_seq_k fun K1 hK1 => ?_
  refine c_region ?_
  refine s_op (o_assign (v := (.int .i64 0)) rfl ?_)
  refine s_nil ?_
  refine t_norm (hK1 _ _ ?_)
  refine wp_seq_k fun K2 hK2 => ?_
  refine c_region ?_
  refine s_op (o_assign (v := (.int .i64 0)) rfl ?_)
  refine s_nil ?_
  refine t_norm (hK2 _ _ ?_)
  refine wp_seq_k fun K3 hK3 => ?_
  refine wp_seq_k fun K4 hK4 => ?_
  refine c_region ?_
  refine s_op (o_move (v := (.pointer none)) rfl ?_)
  refine s_op (o_pnnil (p := none) Try.underlying57 rfl rfl ?_)
  refine s_nil ?_
  refine t_norm (hK4 _ _ ?_)
  refine c_false rfl rfl ?_
  refine wp_skip ?_
  refine t_norm (hK3 _ _ ?_)
  refine wp_seq_k fun K5 hK5 => ?_
  refine c_region ?_
  refine s_op (o_move (v := (.int .i64 0)) rfl ?_)
  refine s_op (o_assign (v := (.int .i64 0)) rfl ?_)
  refine s_nil ?_
  refine t_norm (hK5 _ _ ?_)
  refine wp_ret ?_
  refine c_ret1 Try.results43 (v := (.int .i64 0)) rfl ?_
  exact ⟨rfl, hH⟩
set_option maxHeartbeats 4000000 in
theorem listN_c {E w : World} {R : List Hp} (hH : Has E w [R]) :
    Calls Try.prog 39 #[(.pointer none)] w fun e w' => e = .returned (.slice none 0 0) ∧ Has E w' [R] := by
  refine c_enter (args := [(.pointer none)]) Try.func39 rfl Try.ntmps39 (by simp) ?_
  refine wp_seq_k fun K1 hK1 => ?_
  refine c_region ?_
  refine s_op (o_assign (v := (.slice none 0 0)) rfl ?_)
  refine s_nil ?_
  refine t_norm (hK1 _ _ ?_)
  refine wp_seq_k fun K2 hK2 => ?_
  refine wp_seq_k fun K3 hK3 => ?_
  refine c_region ?_
  refine s_op (o_move (v := (.pointer none)) rfl ?_)
  refine s_op (o_pnil (p := none) Try.underlying57 rfl rfl ?_)
  refine s_nil ?_
  refine t_norm (hK3 _ _ ?_)
  refine c_true rfl rfl ?_
  refine wp_seq_k fun K4 hK4 => ?_
  refine c_region ?_
  refine s_op (o_assign (v := (.slice none 0 0)) rfl ?_)
  refine s_nil ?_
  refine t_norm (hK4 _ _ ?_)
  refine wp_ret ?_
  refine t_ret (c_ret1 Try.results39 (v := (.slice none 0 0)) rfl ?_)
  exact ⟨rfl, hH⟩
set_option maxHeartbeats 4000000 in
theorem fromN_c {E w : World} {R : List Hp} (hH : Has E w [R]) (x : Int) :
    Calls Try.prog 42 #[(.pointer none), (.int .i64 x)] w fun e w' => e = .returned (.slice none 0 0) ∧ Has E w' [R] := by
  refine c_enter (args := [(.pointer none), (.int .i64 x)]) Try.func42 rfl Try.ntmps42 (by simp) ?_
  refine wp_seq_k fun K1 hK1 => ?_
  refine c_region ?_
  refine s_op (o_assign (v := (.slice none 0 0)) rfl ?_)
  refine s_nil ?_
  refine t_norm (hK1 _ _ ?_)
  refine wp_seq_k fun K2 hK2 => ?_
  refine wp_seq_k fun K3 hK3 => ?_
  refine c_region ?_
  refine s_op (o_move (v := (.pointer none)) rfl ?_)
  refine s_op (o_pnil (p := none) Try.underlying57 rfl rfl ?_)
  refine s_nil ?_
  refine t_norm (hK3 _ _ ?_)
  refine c_true rfl rfl ?_
  refine wp_seq_k fun K4 hK4 => ?_
  refine c_region ?_
  refine s_op (o_assign (v := (.slice none 0 0)) rfl ?_)
  refine s_nil ?_
  refine t_norm (hK4 _ _ ?_)
  refine wp_ret ?_
  refine t_ret (c_ret1 Try.results42 (v := (.slice none 0 0)) rfl ?_)
  exact ⟨rfl, hH⟩
set_option maxHeartbeats 4000000 in
theorem hasN_c {E w : World} {R : List Hp} (hH : Has E w [R]) {vl : Value} {l : List Int} (hv : Ints R vl l) :
    Calls Try.prog 41 #[(.pointer none), vl] w fun e w' => e = .returned (.bool (decide (l.length = 0))) ∧ Has E w' [R] := by
  have hn := hv.le
  refine c_enter (args := [(.pointer none), vl]) Try.func41 rfl Try.ntmps41 (by simp) ?_
  refine wp_seq_k fun K1 hK1 => ?_
  refine c_region ?_
  refine s_op (o_assign (v := (.bool false)) rfl ?_)
  refine s_nil ?_
  refine t_norm (hK1 _ _ ?_)
  refine wp_seq_k fun K2 hK2 => ?_
  refine wp_seq_k fun K3 hK3 => ?_
  refine c_region ?_
  refine s_op (o_move (v := vl) rfl ?_)
  refine s_op (o_lenS Try.underlying28 rfl hv ?_)
  refine s_op (o_move (v := (.int .i64 0)) rfl ?_)
  refine s_nil ?_
  refine t_norm (hK3 _ _ ?_)
  refine wp_block ?_
  let I5 : Nat → (Nat → Value) → World → Prop := fun n r w => ∃ (k : Nat), n = l.length - k ∧ Has E w [R] ∧ (k = 0) ∧ r 0 = (.pointer none) ∧ r 1 = vl ∧ r 9 = vl ∧ r 10 = (.int .i64 ((l.length : Nat) : Int)) ∧ r 11 = (.int .i64 (k : Int))
  refine c_loop I5 _ ⟨0, rfl, hH, rfl, rfl, rfl, rfl, rfl, rfl⟩ ?_
  rintro n_ r8 w6 ⟨k, rfl, hH7, hk, e4_0, e4_1, e4_9, e4_10, e4_11⟩
  refine wp_seq_k fun K9 hK9 => ?_
  refine c_region ?_
  refine s_op (o_lss (a := (k : Int)) (b := ((l.length : Nat) : Int)) e4_11 e4_10 ?_)
  refine s_nil ?_
  refine t_norm (hK9 _ _ ?_)
  refine wp_seq_k fun K10 hK10 => ?_
  refine c_cond rfl (fun h11 => ?_) (fun h11 => ?_)
  · -- (k : Int) < ((l.length : Nat) : Int)
    refine wp_skip ?_
    refine t_norm (hK10 _ _ ?_)
    refine wp_seq_k fun K12 hK12 => ?_
    refine wp_block ?_
    refine wp_seq_k fun K13 hK13 => ?_
    refine c_region ?_
    obtain ⟨x17, hx18⟩ : ∃ x, l[((k : Int)).toNat]? = some x := get_some (by omega)
    refine s_op (o_index1 Try.underlying28 ti3 e4_9 hv e4_11 (by omega) hx18 fun b14 o15 hc16 => ?_)
    refine s_op (o_load1 (v := (.int .i64 x17)) Try.underlying3 rfl rfl hH7 (seg_sub 0 rfl) hc16 ?_)
    refine s_op (o_assign (v := (.int .i64 x17)) rfl ?_)
    refine s_nil ?_
    refine t_norm (hK13 _ _ ?_)
    refine wp_seq_k fun K19 hK19 => ?_
    refine wp_seq_k fun K20 hK20 => ?_
    refine c_region ?_
    refine s_op (o_move (v := (.pointer none)) e4_0 ?_)
    refine s_op (o_pnil (p := none) Try.underlying57 rfl rfl ?_)
    refine s_nil ?_
    refine t_norm (hK20 _ _ ?_)
    refine c_true rfl rfl ?_
    refine wp_seq_k fun K21 hK21 => ?_
    refine c_region ?_
    refine s_op (o_assign (v := (.bool false)) rfl ?_)
    refine s_nil ?_
    refine t_norm (hK21 _ _ ?_)
    refine wp_ret ?_
    refine t_ret (b_ret (t_ret (t_ret (b_ret (t_ret (c_ret1 Try.results41 (v := (.bool false)) rfl ?_))))))
    exact ⟨by rw [decide_eq_false (by omega)], hH7⟩
  · -- not: (k : Int) < ((l.length : Nat) : Int)
    refine wp_exit ?_
    refine t_exit (t_exit (x_in (?_)))
    refine t_norm (hK2 _ _ ?_)
    refine wp_seq_k fun K22 hK22 => ?_
    refine c_region ?_
    refine s_op (o_assign (v := (.bool true)) rfl ?_)
    refine s_nil ?_
    refine t_norm (hK22 _ _ ?_)
    refine wp_ret ?_
    refine c_ret1 Try.results41 (v := (.bool true)) rfl ?_
    exact ⟨by rw [decide_eq_true (by omega)], hH7⟩
set_option maxHeartbeats 4000000 in
theorem endsN_c {E w : World} {R : List Hp} (hH : Has E w [R]) :
    Calls Try.prog 37 #[(.pointer none)] w fun e w' => e = .returned (.tuple #[.int .i64 0, .int .i64 0, .bool false]) ∧ Has E w' [R] := by
  refine c_enter (args := [(.pointer none)]) Try.func37 rfl Try.ntmps37 (by simp) ?_
  refine wp_seq_k fun K1 hK1 => ?_
  refine c_region ?_
  refine s_op (o_assign (v := (.int .i64 0)) rfl ?_)
  refine s_op (o_assign (v := (.int .i64 0)) rfl ?_)
  refine s_op (o_assign (v := (.bool false)) rfl ?_)
  refine s_nil ?_
  refine t_norm (hK1 _ _ ?_)
  refine wp_seq_k fun K2 hK2 => ?_
  refine c_region ?_
  refine s_op (o_move (v := (.pointer none)) rfl ?_)
  refine s_op (o_callf (vs := #[(.pointer none)]) ca40 rfl (args1 rfl) (lenN_c hH.all) ?_)
  rintro _ w5 ⟨rfl, hX3⟩
  refine ⟨_, rfl, ?_⟩
  have hH4 := hX3.of_all
  refine s_op (o_assign (v := (.int .i64 0)) rfl ?_)
  refine s_nil ?_
  refine t_norm (hK2 _ _ ?_)
  refine wp_seq_k fun K6 hK6 => ?_
  refine wp_seq_k fun K7 hK7 => ?_
  refine c_region ?_
  refine s_op (o_move (v := (.int .i64 0)) rfl ?_)
  refine s_op (o_eql (a := 0) (b := 0) rfl rfl ?_)
  refine s_nil ?_
  refine t_norm (hK7 _ _ ?_)
  refine c_cond rfl (fun h8 => ?_) (fun h8 => ?_)
  · -- 0 = 0
    refine wp_seq_k fun K9 hK9 => ?_
    refine c_region ?_
    refine s_op (o_assign (v := (.int .i64 0)) rfl ?_)
    refine s_op (o_assign (v := (.int .i64 0)) rfl ?_)
    refine s_op (o_assign (v := (.bool false)) rfl ?_)
    refine s_nil ?_
    refine t_norm (hK9 _ _ ?_)
    refine wp_ret ?_
    refine t_ret (c_ret3 Try.results37 (v := (.int .i64 0)) rfl (x := (.int .i64 0)) rfl (y := (.bool false)) rfl ?_)
    exact ⟨rfl, hH4⟩
  · -- not: 0 = 0
    exact absurd rfl h8
set_option maxHeartbeats 4000000 in
theorem dropN_c {E w : World} {R : List Hp} (hH : Has E w [R]) {vl : Value} {l : List Int} (hv : Ints R vl l) :
    Calls Try.prog 44 #[(.pointer none), vl] w fun e w' => e = .returned (.int .i64 0) ∧ Has E w' [R] := by
  have hn := hv.le
  refine c_enter (args := [(.pointer none), vl]) Try.func44 rfl Try.ntmps44 (by simp) ?_
  refine wp_seq_k fun K1 hK1 => ?_
  refine c_region ?_
  refine s_op (o_assign (v := (.int .i64 0)) rfl ?_)
  refine s_nil ?_
  refine t_norm (hK1 _ _ ?_)
  refine wp_seq_k fun K2 hK2 => ?_
  refine c_region ?_
  refine s_op (o_assign (v := (.int .i64 0)) rfl ?_)
  refine s_nil ?_
  refine t_norm (hK2 _ _ ?_)
  refine wp_seq_k fun K3 hK3 => ?_
  refine wp_seq_k fun K4 hK4 => ?_
  refine c_region ?_
  refine s_op (o_move (v := vl) rfl ?_)
  refine s_op (o_lenS Try.underlying28 rfl hv ?_)
  refine s_op (o_move (v := (.int .i64 0)) rfl ?_)
  refine s_nil ?_
  refine t_norm (hK4 _ _ ?_)
  refine wp_block ?_
  let I6 : Nat → (Nat → Value) → World → Prop := fun n r w => ∃ (k : Nat), n = l.length - k ∧ Has E w [R] ∧ (k ≤ l.length) ∧ r 0 = (.pointer none) ∧ r 1 = vl ∧ r 4 = (.int .i64 0) ∧ r 5 = (.int .i64 0) ∧ r 10 = vl ∧ r 11 = (.int .i64 ((l.length : Nat) : Int)) ∧ r 12 = (.int .i64 (k : Int))
  refine c_loop I6 _ ⟨0, rfl, hH, Nat.zero_le _, rfl, rfl, rfl, rfl, rfl, rfl, rfl⟩ ?_
  rintro n_ r9 w7 ⟨k, rfl, hH8, hk, e5_0, e5_1, e5_4, e5_5, e5_10, e5_11, e5_12⟩
  refine wp_seq_k fun K10 hK10 => ?_
  refine c_region ?_
  refine s_op (o_lss (a := (k : Int)) (b := ((l.length : Nat) : Int)) e5_12 e5_11 ?_)
  refine s_nil ?_
  refine t_norm (hK10 _ _ ?_)
  refine wp_seq_k fun K11 hK11 => ?_
  refine c_cond rfl (fun h12 => ?_) (fun h12 => ?_)
  · -- (k : Int) < ((l.length : Nat) : Int)
    refine wp_skip ?_
    refine t_norm (hK11 _ _ ?_)
    refine wp_seq_k fun K13 hK13 => ?_
    refine wp_block ?_
    refine wp_seq_k fun K14 hK14 => ?_
    refine c_region ?_
    obtain ⟨x18, hx19⟩ : ∃ x, l[((k : Int)).toNat]? = some x := get_some (by omega)
    refine s_op (o_index1 Try.underlying28 ti3 e5_10 hv e5_12 (by omega) hx19 fun b15 o16 hc17 => ?_)
    refine s_op (o_load1 (v := (.int .i64 x18)) Try.underlying3 rfl rfl hH8 (seg_sub 0 rfl) hc17 ?_)
    refine s_op (o_assign (v := (.int .i64 x18)) rfl ?_)
    refine s_nil ?_
    refine t_norm (hK14 _ _ ?_)
    refine wp_seq_k fun K20 hK20 => ?_
    refine c_region ?_
    refine s_op (o_move (v := (.pointer none)) e5_0 ?_)
    refine s_op (o_move (v := (.int .i64 x18)) rfl ?_)
    refine s_op (o_buildSlice (ps := #[(0, (.int .i64 x18))]) (cells := #[(.int .i64 x18)]) Try.underlying28 ti3 (by decide) (parts1 rfl) (by kernel_rfl) hH8 fun b21 w22 hH23 => ?_)
    refine s_op (o_callf (vs := #[(.pointer none), (.slice (some ⟨b21, 0, none⟩) 1 1)]) ca41 rfl (args2 rfl rfl) (hasN_c hH23.all (l := [x18]) ((sl_lit (f := iV) (l := [x18]) rfl rfl (by simp)).mono (seg_sub 0 rfl))) ?_)
    rintro _ w26 ⟨rfl, hX24⟩
    refine ⟨_, rfl, ?_⟩
    have hH25 := hX24.of_all
    refine s_nil ?_
    refine t_norm (hK20 _ _ ?_)
    refine c_false rfl rfl ?_
    refine wp_skip ?_
    refine b_norm ?_
    refine t_norm (hK13 _ _ ?_)
    refine c_region ?_
    refine s_op (o_add (a := (k : Int)) (b := 1) e5_12 rfl (w64 (by omega) (by omega)) ?_)
    refine s_op (o_move (v := (.int .i64 ((k : Int) + 1))) rfl ?_)
    refine s_nil ?_
    have hH27 : Has E w26 [R] := (hH25.front 1 rfl).first 1 rfl
    refine t_norm ⟨l.length - (k + 1), _, rfl, ?_, ?_⟩
    · omega
    · exact ⟨(k + 1), rfl, hH27, (by omega), e5_0, e5_1, e5_4, e5_5, e5_10, e5_11, rfl⟩
  · -- not: (k : Int) < ((l.length : Nat) : Int)
    refine wp_exit ?_
    refine t_exit (t_exit (x_in (?_)))
    refine t_norm (hK3 _ _ ?_)
    refine wp_seq_k fun K28 hK28 => ?_
    refine c_region ?_
    refine s_op (o_move (v := (.int .i64 0)) e5_5 ?_)
    refine s_op (o_assign (v := (.int .i64 0)) rfl ?_)
    refine s_nil ?_
    refine t_norm (hK28 _ _ ?_)
    refine wp_ret ?_
    refine c_ret1 Try.results44 (v := (.int .i64 0)) rfl ?_
    exact ⟨rfl, hH8⟩
end Go.Q
