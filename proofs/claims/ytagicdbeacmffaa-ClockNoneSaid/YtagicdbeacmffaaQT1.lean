/-
  Parts of a walk: what functions of the program compute, each told by a theorem.
-/
import Derived.Test.YtagicdbeacmffaaQI
import Derived.Test.YtagicdbeacmffaaQNums
import Derived.Test.YtagicdbeacmffaaQBase
set_option linter.unusedVariables false
set_option linter.unusedSimpArgs false
namespace Go.Q
open Go.Proofs
set_option linter.unusedVariables false
set_option maxRecDepth 100000
attribute [local irreducible] wpList OK Code.wp
set_option maxHeartbeats 4000000 in
theorem chasN_c {E w : World} {R : List Hp} (hH : Has E w [R]) {vl : Value} {l : List Int} (hv : Ints R vl l) :
    Calls Try.prog 46 #[(.pointer none), vl] w fun e w' => e = .returned (.bool false) ∧ Has E w' [R] := by
  have hn := hv.le
  refine c_enter (args := [(.pointer none), vl]) Try.func46 rfl Try.ntmps46 (by simp) ?_
  refine wp_seq_k fun K1 hK1 => ?_
  refine c_region ?_
  refine s_op (o_assign (v := (.bool false)) rfl ?_)
  refine s_nil ?_
  refine t_norm (hK1 _ _ ?_)
  refine wp_seq_k fun K2 hK2 => ?_
  refine wp_seq_k fun K3 hK3 => ?_
  refine c_region ?_
  refine s_op (o_move (v := vl) rfl ?_)
  refine s_op (o_lenS Try.underlying28 rfl hv ?_)
  refine s_op (o_move (v := (.int .i64 0)) rfl ?_)
  refine s_nil ?_
  refine t_norm (hK3 _ _ ?_)
  refine wp_block ?_
  let I5 : Nat → (Nat → Value) → World → Prop := fun n__ r__ w__ => ∃ (k : Nat), n__ = l.length - k ∧ Has E w__ [R] ∧ (k = 0) ∧ r__ 0 = (.pointer none) ∧ r__ 1 = vl ∧ r__ 7 = vl ∧ r__ 8 = (.int .i64 ((l.length : Nat) : Int)) ∧ r__ 9 = (.int .i64 (k : Int))
  refine c_loop I5 _ ⟨0, rfl, hH, rfl, rfl, rfl, rfl, rfl, rfl⟩ ?_
  rintro n_ r8 w6 ⟨k, rfl, hH7, hk, e4_0, e4_1, e4_7, e4_8, e4_9⟩
  refine wp_seq_k fun K9 hK9 => ?_
  refine c_region ?_
  refine s_op (o_lss (a := (k : Int)) (b := ((l.length : Nat) : Int)) e4_9 e4_8 ?_)
  refine s_nil ?_
  refine t_norm (hK9 _ _ ?_)
  refine wp_seq_k fun K10 hK10 => ?_
  refine c_cond rfl (fun h11 => ?_) (fun h11 => ?_)
  · -- (k : Int) < ((l.length : Nat) : Int)
    refine wp_skip ?_
    refine t_norm (hK10 _ _ ?_)
    refine wp_seq_k fun K12 hK12 => ?_
    refine wp_block ?_
    refine wp_seq_k fun K13 hK13 => ?_
    refine c_region ?_
    obtain ⟨x17, hx18⟩ : ∃ x, l[((k : Int)).toNat]? = some x := get_some (by omega)
    refine s_op (o_index1 Try.underlying28 ti3 e4_7 hv e4_9 (by omega) hx18 fun b14 o15 hc16 => ?_)
    refine s_op (o_load1 (v := (.int .i64 x17)) Try.underlying3 rfl rfl hH7 (seg_sub 0 rfl) hc16 ?_)
    refine s_op (o_assign (v := (.int .i64 x17)) rfl ?_)
    refine s_nil ?_
    refine t_norm (hK13 _ _ ?_)
    refine wp_seq_k fun K19 hK19 => ?_
    refine c_region ?_
    refine s_op (o_move (v := (.pointer none)) e4_0 ?_)
    refine s_op (o_pnil (p := none) Try.underlying25 rfl rfl ?_)
    refine s_op (o_move (v := (.bool true)) rfl ?_)
    refine s_off (b' := true) 15 rfl rfl rfl ?_
    refine s_off (b' := true) 15 rfl rfl rfl ?_
    refine s_op (o_pick_t (u := (.bool true)) rfl rfl ?_)
    refine s_op (o_move (v := (.bool true)) rfl ?_)
    refine s_off (b' := true) 19 rfl rfl rfl ?_
    refine s_off (b' := true) 19 rfl rfl rfl ?_
    refine s_off (b' := true) 19 rfl rfl rfl ?_
    refine s_off (b' := true) 19 rfl rfl rfl ?_
    refine s_off (b' := true) 19 rfl rfl rfl ?_
    refine s_off (b' := true) 19 rfl rfl rfl ?_
    refine s_off (b' := true) 19 rfl rfl rfl ?_
    refine s_op (o_pick_t (u := (.bool true)) rfl rfl ?_)
    refine s_nil ?_
    refine t_norm (hK19 _ _ ?_)
    refine c_true rfl rfl ?_
    refine wp_seq_k fun K20 hK20 => ?_
    refine c_region ?_
    refine s_op (o_assign (v := (.bool false)) rfl ?_)
    refine s_nil ?_
    refine t_norm (hK20 _ _ ?_)
    refine wp_ret ?_
    refine b_ret (t_ret (t_ret (b_ret (t_ret (c_ret1 Try.results46 (v := (.bool false)) rfl ?_)))))
    exact ⟨rfl, hH7⟩
  · -- not: (k : Int) < ((l.length : Nat) : Int)
    refine wp_exit ?_
    refine t_exit (t_exit (x_in (?_)))
    refine t_norm (hK2 _ _ ?_)
    refine wp_seq_k fun K21 hK21 => ?_
    refine c_region ?_
    refine s_op (o_move (v := (.pointer none)) e4_0 ?_)
    refine s_op (o_pnnil (p := none) Try.underlying25 rfl rfl ?_)
    refine s_op (o_assign (v := (.bool false)) rfl ?_)
    refine s_nil ?_
    refine t_norm (hK21 _ _ ?_)
    refine wp_ret ?_
    refine c_ret1 Try.results46 (v := (.bool false)) rfl ?_
    exact ⟨rfl, hH7⟩
set_option maxHeartbeats 4000000 in
theorem cstreamN_c {E w : World} {R : List Hp} (hH : Has E w [R]) (x : Int) :
    Calls Try.prog 22 #[(.pointer none), (.int .i64 x)] w fun e w' => e = .returned (.int .i64 0) ∧ Has E w' [R] := by
  refine c_enter (args := [(.pointer none), (.int .i64 x)]) Try.func22 rfl Try.ntmps22 (by simp) ?_
  refine wp_seq_k fun K1 hK1 => ?_
  refine c_region ?_
  refine s_op (o_assign (v := (.int .i64 0)) rfl ?_)
  refine s_nil ?_
  refine t_norm (hK1 _ _ ?_)
  refine wp_seq_k fun K2 hK2 => ?_
  refine wp_seq_k fun K3 hK3 => ?_
  refine c_region ?_
  refine s_op (o_move (v := (.pointer none)) rfl ?_)
  refine s_op (o_move (v := (.int .i64 x)) rfl ?_)
  refine s_op (o_buildSlice (ps := #[(0, (.int .i64 x))]) (cells := #[(.int .i64 x)]) Try.underlying28 ti3 (by decide) (parts1 rfl) (by kernel_rfl) hH fun b4 w5 hH6 => ?_)
  refine s_op (o_callf (vs := #[(.pointer none), (.slice (some ⟨b4, 0, none⟩) 1 1)]) ca46 rfl (args2 rfl rfl) (chasN_c hH6.all (l := [x]) ((sl_lit (f := iV) (l := [x]) rfl rfl (by simp)).mono (seg_sub 0 rfl))) ?_)
  rintro _ w9 ⟨rfl, hX7⟩
  refine ⟨_, rfl, ?_⟩
  have hH8 := hX7.of_all
  refine s_op (o_not rfl ?_)
  refine s_nil ?_
  refine t_norm (hK3 _ _ ?_)
  refine c_true rfl rfl ?_
  refine wp_seq_k fun K10 hK10 => ?_
  refine c_region ?_
  refine s_op (o_assign (v := (.int .i64 0)) rfl ?_)
  refine s_nil ?_
  refine t_norm (hK10 _ _ ?_)
  refine wp_ret ?_
  refine t_ret (c_ret1 Try.results22 (v := (.int .i64 0)) rfl ?_)
  have hH11 : Has E w9 [R] := (hH8.front 1 rfl).first 1 rfl
  exact ⟨rfl, hH11⟩
set_option maxHeartbeats 4000000 in
theorem cpageN_c {E w : World} {R : List Hp} (hH : Has E w [R]) (x : Int) :
    Calls Try.prog 23 #[(.pointer none), (.int .i64 x)] w fun e w' => e = .returned (.int .i64 0) ∧ Has E w' [R] := by
  refine c_enter (args := [(.pointer none), (.int .i64 x)]) Try.func23 rfl Try.ntmps23 (by simp) ?_
  refine wp_seq_k fun K1 hK1 => ?_
  refine c_region ?_
  refine s_op (o_assign (v := (.int .i64 0)) rfl ?_)
  refine s_nil ?_
  refine t_norm (hK1 _ _ ?_)
  refine wp_seq_k fun K2 hK2 => ?_
  refine wp_seq_k fun K3 hK3 => ?_
  refine c_region ?_
  refine s_op (o_move (v := (.pointer none)) rfl ?_)
  refine s_op (o_pnil (p := none) Try.underlying25 rfl rfl ?_)
  refine s_nil ?_
  refine t_norm (hK3 _ _ ?_)
  refine c_true rfl rfl ?_
  refine wp_seq_k fun K4 hK4 => ?_
  refine c_region ?_
  refine s_op (o_assign (v := (.int .i64 0)) rfl ?_)
  refine s_nil ?_
  refine t_norm (hK4 _ _ ?_)
  refine wp_ret ?_
  refine t_ret (c_ret1 Try.results23 (v := (.int .i64 0)) rfl ?_)
  exact ⟨rfl, hH⟩
set_option maxHeartbeats 4000000 in
theorem ctxnN_c {E w : World} {R : List Hp} (hH : Has E w [R]) (x : Int) :
    Calls Try.prog 24 #[(.pointer none), (.int .i64 x)] w fun e w' => e = .returned (.int .i64 0) ∧ Has E w' [R] := by
  refine c_enter (args := [(.pointer none), (.int .i64 x)]) Try.func24 rfl Try.ntmps24 (by simp) ?_
  refine wp_seq_k fun K1 hK1 => ?_
  refine c_region ?_
  refine s_op (o_assign (v := (.int .i64 0)) rfl ?_)
  refine s_nil ?_
  refine t_norm (hK1 _ _ ?_)
  refine wp_seq_k fun K2 hK2 => ?_
  refine wp_seq_k fun K3 hK3 => ?_
  refine c_region ?_
  refine s_op (o_move (v := (.pointer none)) rfl ?_)
  refine s_op (o_pnil (p := none) Try.underlying25 rfl rfl ?_)
  refine s_nil ?_
  refine t_norm (hK3 _ _ ?_)
  refine c_true rfl rfl ?_
  refine wp_seq_k fun K4 hK4 => ?_
  refine c_region ?_
  refine s_op (o_assign (v := (.int .i64 0)) rfl ?_)
  refine s_nil ?_
  refine t_norm (hK4 _ _ ?_)
  refine wp_ret ?_
  refine t_ret (c_ret1 Try.results24 (v := (.int .i64 0)) rfl ?_)
  exact ⟨rfl, hH⟩
set_option maxHeartbeats 4000000 in
theorem ctopN_c {E w : World} {R : List Hp} (hH : Has E w [R]) :
    Calls Try.prog 25 #[(.pointer none)] w fun e w' => e = .returned (.int .i64 0) ∧ Has E w' [R] := by
  refine c_enter (args := [(.pointer none)]) Try.func25 rfl Try.ntmps25 (by simp) ?_
  refine wp_seq_k fun K1 hK1 => ?_
  refine c_region ?_
  refine s_op (o_assign (v := (.int .i64 0)) rfl ?_)
  refine s_nil ?_
  refine t_norm (hK1 _ _ ?_)
  refine wp_seq_k fun K2 hK2 => ?_
  refine wp_seq_k fun K3 hK3 => ?_
  refine c_region ?_
  refine s_op (o_move (v := (.pointer none)) rfl ?_)
  refine s_op (o_pnil (p := none) Try.underlying25 rfl rfl ?_)
  refine s_nil ?_
  refine t_norm (hK3 _ _ ?_)
  refine c_true rfl rfl ?_
  refine wp_seq_k fun K4 hK4 => ?_
  refine c_region ?_
  refine s_op (o_assign (v := (.int .i64 0)) rfl ?_)
  refine s_nil ?_
  refine t_norm (hK4 _ _ ?_)
  refine wp_ret ?_
  refine t_ret (c_ret1 Try.results25 (v := (.int .i64 0)) rfl ?_)
  exact ⟨rfl, hH⟩
set_option maxHeartbeats 4000000 in
theorem cpeekN_c {E w : World} {R : List Hp} (hH : Has E w [R]) (x y z : Int) :
    Calls Try.prog 18 #[(.pointer none), (.int .i64 x), (.int .i64 y), (.int .i64 z)] w fun e w' => e = .returned (.tuple #[.int .i64 0, .int .i64 1]) ∧ Has E w' [R] := by
  refine c_enter (args := [(.pointer none), (.int .i64 x), (.int .i64 y), (.int .i64 z)]) Try.func18 rfl Try.ntmps18 (by simp) ?_
  refine wp_seq_k fun K1 hK1 => ?_
  refine c_region ?_
  refine s_op (o_assign (v := (.int .i64 0)) rfl ?_)
  refine s_op (o_assign (v := (.int .i64 0)) rfl ?_)
  refine s_nil ?_
  refine t_norm (hK1 _ _ ?_)
  refine wp_seq_k fun K2 hK2 => ?_
  refine wp_seq_k fun K3 hK3 => ?_
  refine c_region ?_
  refine s_op (o_move (v := (.pointer none)) rfl ?_)
  refine s_op (o_move (v := (.int .i64 x)) rfl ?_)
  refine s_op (o_buildSlice (ps := #[(0, (.int .i64 x))]) (cells := #[(.int .i64 x)]) Try.underlying28 ti3 (by decide) (parts1 rfl) (by kernel_rfl) hH fun b4 w5 hH6 => ?_)
  refine s_op (o_callf (vs := #[(.pointer none), (.slice (some ⟨b4, 0, none⟩) 1 1)]) ca46 rfl (args2 rfl rfl) (chasN_c hH6.all (l := [x]) ((sl_lit (f := iV) (l := [x]) rfl rfl (by simp)).mono (seg_sub 0 rfl))) ?_)
  rintro _ w9 ⟨rfl, hX7⟩
  refine ⟨_, rfl, ?_⟩
  have hH8 := hX7.of_all
  refine s_op (o_not rfl ?_)
  refine s_nil ?_
  refine t_norm (hK3 _ _ ?_)
  refine c_true rfl rfl ?_
  refine wp_seq_k fun K10 hK10 => ?_
  refine c_region ?_
  refine s_op (o_assign (v := (.int .i64 0)) rfl ?_)
  refine s_op (o_assign (v := (.int .i64 1)) rfl ?_)
  refine s_nil ?_
  refine t_norm (hK10 _ _ ?_)
  refine wp_ret ?_
  refine t_ret (c_ret2 Try.results18 (v := (.int .i64 0)) rfl (x := (.int .i64 1)) rfl ?_)
  have hH11 : Has E w9 [R] := (hH8.front 1 rfl).first 1 rfl
  exact ⟨rfl, hH11⟩
set_option maxHeartbeats 4000000 in
theorem ctickN_c {E w : World} {R : List Hp} (hH : Has E w [R]) (x y z : Int) :
    Calls Try.prog 17 #[(.pointer none), (.int .i64 x), (.int .i64 y), (.int .i64 z)] w fun e w' => e = .returned (.tuple #[.int .i64 0, .int .i64 1]) ∧ Has E w' [R] := by
  refine c_enter (args := [(.pointer none), (.int .i64 x), (.int .i64 y), (.int .i64 z)]) Try.func17 rfl Try.ntmps17 (by simp) ?_
  refine wp_seq_k fun K1 hK1 => ?_
  refine c_region ?_
  refine s_op (o_assign (v := (.int .i64 0)) rfl ?_)
  refine s_op (o_assign (v := (.int .i64 0)) rfl ?_)
  refine s_nil ?_
  refine t_norm (hK1 _ _ ?_)
  refine wp_seq_k fun K2 hK2 => ?_
  refine c_region ?_
  refine s_op (o_move (v := (.pointer none)) rfl ?_)
  refine s_op (o_move (v := (.int .i64 x)) rfl ?_)
  refine s_op (o_move (v := (.int .i64 y)) rfl ?_)
  refine s_op (o_move (v := (.int .i64 z)) rfl ?_)
  refine s_op (o_callf (vs := #[(.pointer none), (.int .i64 x), (.int .i64 y), (.int .i64 z)]) ca18 rfl (args4 rfl rfl rfl rfl) (cpeekN_c hH.all x y z) ?_)
  rintro _ w5 ⟨rfl, hX3⟩
  refine ⟨_, rfl, ?_⟩
  have hH4 := hX3.of_all
  refine s_op (o_move (v := (.tuple #[(.int .i64 (0 : Int)), (.int .i64 (1 : Int))])) rfl ?_)
  refine s_op (o_extract (v := (.int .i64 (0 : Int))) rfl rfl ?_)
  refine s_op (o_extract (v := (.int .i64 (1 : Int))) rfl rfl ?_)
  refine s_op (o_assign (v := (.int .i64 (0 : Int))) rfl ?_)
  refine s_op (o_assign (v := (.int .i64 (1 : Int))) rfl ?_)
  refine s_nil ?_
  refine t_norm (hK2 _ _ ?_)
  refine wp_seq_k fun K6 hK6 => ?_
  refine wp_seq_k fun K7 hK7 => ?_
  refine c_region ?_
  refine s_op (o_move (v := (.int .i64 (1 : Int))) rfl ?_)
  refine s_op (o_neq (a := (1 : Int)) (b := 0) rfl rfl ?_)
  refine s_nil ?_
  refine t_norm (hK7 _ _ ?_)
  refine c_cond rfl (fun h8 => ?_) (fun h8 => ?_)
  · -- (1 : Int) ≠ 0
    refine wp_seq_k fun K9 hK9 => ?_
    refine c_region ?_
    refine s_op (o_move (v := (.int .i64 (1 : Int))) rfl ?_)
    refine s_op (o_assign (v := (.int .i64 0)) rfl ?_)
    refine s_op (o_assign (v := (.int .i64 (1 : Int))) rfl ?_)
    refine s_nil ?_
    refine t_norm (hK9 _ _ ?_)
    refine wp_ret ?_
    refine t_ret (c_ret2 Try.results17 (v := (.int .i64 0)) rfl (x := (.int .i64 (1 : Int))) rfl ?_)
    exact ⟨rfl, hH4⟩
  · -- not: (1 : Int) ≠ 0
    exact absurd (by decide) h8
set_option maxHeartbeats 4000000 in
theorem craiseN_c {E w : World} {R : List Hp} (hH : Has E w [R]) (x : Int) {vl : Value} {l : List Int} (hv : Ints R vl l) :
    Calls Try.prog 21 #[(.pointer none), (.int .i64 x), vl] w fun e w' => e = .returned (.int .i64 1) ∧ Has E w' [R] := by
  refine c_enter (args := [(.pointer none), (.int .i64 x), vl]) Try.func21 rfl Try.ntmps21 (by simp) ?_
  refine wp_seq_k fun K1 hK1 => ?_
  refine c_region ?_
  refine s_op (o_assign (v := (.int .i64 0)) rfl ?_)
  refine s_nil ?_
  refine t_norm (hK1 _ _ ?_)
  refine wp_seq_k fun K2 hK2 => ?_
  refine wp_seq_k fun K3 hK3 => ?_
  refine c_region ?_
  refine s_op (o_move (v := (.pointer none)) rfl ?_)
  refine s_op (o_move (v := vl) rfl ?_)
  refine s_op (o_callf (vs := #[(.pointer none), vl]) ca46 rfl (args2 rfl rfl) (chasN_c hH.all (l := l) (hv.mono (seg_sub 0 rfl))) ?_)
  rintro _ w6 ⟨rfl, hX4⟩
  refine ⟨_, rfl, ?_⟩
  have hH5 := hX4.of_all
  refine s_op (o_not rfl ?_)
  refine s_op (o_move (v := (.bool true)) rfl ?_)
  refine s_off (b' := true) 14 rfl rfl rfl ?_
  refine s_off (b' := true) 14 rfl rfl rfl ?_
  refine s_op (o_pick_t (u := (.bool true)) rfl rfl ?_)
  refine s_op (o_move (v := (.bool true)) rfl ?_)
  refine s_off (b' := true) 18 rfl rfl rfl ?_
  refine s_off (b' := true) 18 rfl rfl rfl ?_
  refine s_op (o_pick_t (u := (.bool true)) rfl rfl ?_)
  refine s_nil ?_
  refine t_norm (hK3 _ _ ?_)
  refine c_true rfl rfl ?_
  refine wp_seq_k fun K7 hK7 => ?_
  refine c_region ?_
  refine s_op (o_assign (v := (.int .i64 1)) rfl ?_)
  refine s_nil ?_
  refine t_norm (hK7 _ _ ?_)
  refine wp_ret ?_
  refine t_ret (c_ret1 Try.results21 (v := (.int .i64 1)) rfl ?_)
  exact ⟨rfl, hH5⟩
set_option maxHeartbeats 4000000 in
theorem cseesN_c {E w : World} {R : List Hp} (hH : Has E w [R]) (x y : Int) :
    Calls Try.prog 14 #[(.pointer none), (.int .i64 x), (.int .i64 y)] w fun e w' => e = .returned (.tuple #[]) ∧ Has E w' [R] := by
  refine c_enter (args := [(.pointer none), (.int .i64 x), (.int .i64 y)]) Try.func14 rfl Try.ntmps14 (by simp) ?_
  refine wp_seq_k fun K1 hK1 => ?_
  refine c_region ?_
  refine s_op (o_move (v := (.pointer none)) rfl ?_)
  refine s_op (o_pnnil (p := none) Try.underlying25 rfl rfl ?_)
  refine s_op (o_move (v := (.bool false)) rfl ?_)
  refine s_off (b' := false) 8 rfl rfl rfl ?_
  refine s_off (b' := false) 8 rfl rfl rfl ?_
  refine s_op (o_pick_f (u := (.bool false)) rfl rfl ?_)
  refine s_op (o_move (v := (.bool false)) rfl ?_)
  refine s_off (b' := false) 12 rfl rfl rfl ?_
  refine s_off (b' := false) 12 rfl rfl rfl ?_
  refine s_op (o_pick_f (u := (.bool false)) rfl rfl ?_)
  refine s_nil ?_
  refine t_norm (hK1 _ _ ?_)
  refine c_false rfl rfl ?_
  refine wp_skip ?_
  refine c_end0 Try.results14 ?_
  exact ⟨rfl, hH⟩
set_option maxHeartbeats 4000000 in
theorem cturnN_c {E w : World} {R : List Hp} (hH : Has E w [R]) (x y : Int) :
    Calls Try.prog 19 #[(.pointer none), (.int .i64 x), (.int .i64 y)] w fun e w' => e = .returned (.tuple #[]) ∧ Has E w' [R] := by
  refine c_enter (args := [(.pointer none), (.int .i64 x), (.int .i64 y)]) Try.func19 rfl Try.ntmps19 (by simp) ?_
  refine wp_seq_k fun K1 hK1 => ?_
  refine c_region ?_
  refine s_op (o_move (v := (.pointer none)) rfl ?_)
  refine s_op (o_pnnil (p := none) Try.underlying25 rfl rfl ?_)
  refine s_op (o_move (v := (.bool false)) rfl ?_)
  refine s_off (b' := false) 8 rfl rfl rfl ?_
  refine s_off (b' := false) 8 rfl rfl rfl ?_
  refine s_op (o_pick_f (u := (.bool false)) rfl rfl ?_)
  refine s_op (o_move (v := (.bool false)) rfl ?_)
  refine s_off (b' := false) 12 rfl rfl rfl ?_
  refine s_off (b' := false) 12 rfl rfl rfl ?_
  refine s_op (o_pick_f (u := (.bool false)) rfl rfl ?_)
  refine s_op (o_move (v := (.bool false)) rfl ?_)
  refine s_off (b' := false) 16 rfl rfl rfl ?_
  refine s_off (b' := false) 16 rfl rfl rfl ?_
  refine s_op (o_pick_f (u := (.bool false)) rfl rfl ?_)
  refine s_nil ?_
  refine t_norm (hK1 _ _ ?_)
  refine c_false rfl rfl ?_
  refine wp_skip ?_
  refine c_end0 Try.results19 ?_
  exact ⟨rfl, hH⟩
set_option maxHeartbeats 4000000 in
theorem cdropN_c {E w : World} {R : List Hp} (hH : Has E w [R]) {vl : Value} {l : List Int} (hv : Ints R vl l) :
    Calls Try.prog 20 #[(.pointer none), vl] w fun e w' => e = .returned (.tuple #[]) ∧ Has E w' [R] := by
  refine c_enter (args := [(.pointer none), vl]) Try.func20 rfl Try.ntmps20 (by simp) ?_
  refine wp_seq_k fun K1 hK1 => ?_
  refine c_region ?_
  refine s_op (o_move (v := (.pointer none)) rfl ?_)
  refine s_op (o_pnnil (p := none) Try.underlying25 rfl rfl ?_)
  refine s_nil ?_
  refine t_norm (hK1 _ _ ?_)
  refine c_false rfl rfl ?_
  refine wp_skip ?_
  refine c_end0 Try.results20 ?_
  exact ⟨rfl, hH⟩
end Go.Q
