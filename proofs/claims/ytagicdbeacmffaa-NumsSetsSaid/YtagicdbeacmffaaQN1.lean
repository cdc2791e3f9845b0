/-
  Parts of a walk: what functions of the program compute, each told by a theorem.
-/
import Derived.Test.YtagicdbeacmffaaQNums
import Derived.Test.YtagicdbeacmffaaQBase
set_option linter.unusedVariables false
set_option linter.unusedSimpArgs false
namespace Go.Q
open Go.Proofs
set_option linter.unusedVariables false
set_option maxRecDepth 100000
attribute [local irreducible] wpList OK Code.wp
set_option maxHeartbeats 4000000 in
theorem most_c {E w : World} {R : List Hp} (hH : Has E w [R]) (x : Int) {v : Value} {l : List Int} (hv : Ints R v l) :
    Calls Try.prog 31 #[(.int .i64 x), v] w fun e w' => e = .returned (.int .i64 (l.foldl max x)) ∧ Has E w' [R] := by
  have hn := hv.le
  refine c_enter (args := [(.int .i64 x), v]) Try.func31 rfl Try.ntmps31 (by simp) ?_
  refine wp_seq_k fun K1 hK1 => ?_
  refine c_region ?_
  refine s_op (o_assign (v := (.int .i64 0)) rfl ?_)
  refine s_nil ?_
  refine t_norm (hK1 _ _ ?_)
  refine wp_seq_k fun K2 hK2 => ?_
  refine wp_seq_k fun K3 hK3 => ?_
  refine c_region ?_
  refine s_op (o_move (v := v) rfl ?_)
  refine s_op (o_lenS Try.underlying28 rfl hv ?_)
  refine s_op (o_move (v := (.int .i64 0)) rfl ?_)
  refine s_nil ?_
  refine t_norm (hK3 _ _ ?_)
  refine wp_block ?_
  let I4 : Nat → (Nat → Value) → World → Prop := fun n r w => ∃ (k : Nat) (y : Int) (u1_6 u1_10 u1_11 u1_12 u1_13 u1_14 u1_15 u1_16 : Value), n = l.length - k ∧ r = base [(.int .i64 y), v, undef, undef, (.int .i64 0), undef, u1_6, v, (.int .i64 ((l.length : Nat) : Int)), (.int .i64 (k : Int)), u1_10, u1_11, u1_12, u1_13, u1_14, u1_15, u1_16, undef] ∧ Has E w [R] ∧ (k ≤ l.length) ∧ (y = (l.take k).foldl max x)
  rw [show Go.Q.fr 18 _ = Go.Q.fr 18 (base [(.int .i64 x), v, undef, undef, (.int .i64 0), undef, undef, v, (.int .i64 ((l.length : Nat) : Int)), (.int .i64 (0 : Int)), undef, undef, undef, undef, undef, undef, undef, undef]) from fr_lit (by rfl)]
  refine c_loop I4 _ ⟨0, x, undef, undef, undef, undef, undef, undef, undef, undef, rfl, rfl, hH, Nat.zero_le _, rfl⟩ ?_
  rintro n_ r_ w5 ⟨k, y, u1_6, u1_10, u1_11, u1_12, u1_13, u1_14, u1_15, u1_16, rfl, rfl, hH6, hk, hy⟩
  refine wp_seq_k fun K7 hK7 => ?_
  refine c_region ?_
  refine s_op (o_lss (a := (k : Int)) (b := ((l.length : Nat) : Int)) rfl rfl ?_)
  refine s_nil ?_
  refine t_norm (hK7 _ _ ?_)
  refine wp_seq_k fun K8 hK8 => ?_
  refine c_cond rfl (fun h9 => ?_) (fun h9 => ?_)
  · -- (k : Int) < ((l.length : Nat) : Int)
    refine wp_skip ?_
    refine t_norm (hK8 _ _ ?_)
    refine wp_seq_k fun K10 hK10 => ?_
    refine wp_block ?_
    refine wp_seq_k fun K11 hK11 => ?_
    refine c_region ?_
    obtain ⟨x15, hx16⟩ : ∃ x, l[((k : Int)).toNat]? = some x := get_some (by omega)
    refine s_op (o_index1 Try.underlying28 ti3 rfl hv rfl (by omega) hx16 fun b12 o13 hc14 => ?_)
    refine s_op (o_load1 (v := (.int .i64 x15)) Try.underlying3 rfl rfl hH6 (seg_sub 0 rfl) hc14 ?_)
    refine s_op (o_assign (v := (.int .i64 x15)) rfl ?_)
    refine s_nil ?_
    refine t_norm (hK11 _ _ ?_)
    refine c_region ?_
    refine s_op (o_move (v := (.int .i64 y)) rfl ?_)
    refine s_op (o_move (v := (.int .i64 x15)) rfl ?_)
    refine s_op (o_max (a := y) (b := x15) rfl rfl ?_)
    refine s_op (o_assign (v := (.int .i64 (max y x15))) rfl ?_)
    refine s_nil ?_
    refine b_norm ?_
    refine t_norm (hK10 _ _ ?_)
    refine c_region ?_
    refine s_op (o_add (a := (k : Int)) (b := 1) rfl rfl (w64 (by omega) (by omega)) ?_)
    refine s_op (o_move (v := (.int .i64 ((k : Int) + 1))) rfl ?_)
    refine s_nil ?_
    refine t_norm ⟨l.length - (k + 1), base [(.int .i64 (max y x15)), v, undef, undef, (.int .i64 0), undef, (.int .i64 x15), v, (.int .i64 ((l.length : Nat) : Int)), (.int .i64 ((k : Int) + 1)), (.bool (decide ((k : Int) < ((l.length : Nat) : Int)))), (.pointer (some ⟨b12, o13, none⟩)), (.int .i64 x15), (.int .i64 y), (.int .i64 x15), (.int .i64 (max y x15)), (.int .i64 ((k : Int) + 1)), undef], fr_lit (by rfl), ?_, ?_⟩
    · omega
    · exact ⟨(k + 1), (max y x15), _, _, _, _, _, _, _, _, rfl, rfl, hH6, (by omega), (by rw [take_succ_of (by simpa using hx16), List.foldl_append, ← hy]; rfl)⟩
  · -- not: (k : Int) < ((l.length : Nat) : Int)
    refine wp_exit ?_
    refine t_exit (t_exit (x_in (?_)))
    refine t_norm (hK2 _ _ ?_)
    refine wp_seq_k fun K17 hK17 => ?_
    refine c_region ?_
    refine s_op (o_move (v := (.int .i64 y)) rfl ?_)
    refine s_op (o_assign (v := (.int .i64 y)) rfl ?_)
    refine s_nil ?_
    refine t_norm (hK17 _ _ ?_)
    refine wp_ret ?_
    refine c_ret1 Try.results31 (v := (.int .i64 y)) rfl ?_
    have e : k = l.length := by omega
    subst e
    rw [List.take_of_length_le (Nat.le_refl _)] at hy
    subst hy
    exact ⟨rfl, hH6⟩
set_option maxHeartbeats 4000000 in
theorem least_c {E w : World} {R : List Hp} (hH : Has E w [R]) (x : Int) {v : Value} {l : List Int} (hv : Ints R v l) :
    Calls Try.prog 32 #[(.int .i64 x), v] w fun e w' => e = .returned (.int .i64 (l.foldl min x)) ∧ Has E w' [R] := by
  have hn := hv.le
  refine c_enter (args := [(.int .i64 x), v]) Try.func32 rfl Try.ntmps32 (by simp) ?_
  refine wp_seq_k fun K1 hK1 => ?_
  refine c_region ?_
  refine s_op (o_assign (v := (.int .i64 0)) rfl ?_)
  refine s_nil ?_
  refine t_norm (hK1 _ _ ?_)
  refine wp_seq_k fun K2 hK2 => ?_
  refine wp_seq_k fun K3 hK3 => ?_
  refine c_region ?_
  refine s_op (o_move (v := v) rfl ?_)
  refine s_op (o_lenS Try.underlying28 rfl hv ?_)
  refine s_op (o_move (v := (.int .i64 0)) rfl ?_)
  refine s_nil ?_
  refine t_norm (hK3 _ _ ?_)
  refine wp_block ?_
  let I4 : Nat → (Nat → Value) → World → Prop := fun n r w => ∃ (k : Nat) (y : Int) (u1_6 u1_10 u1_11 u1_12 u1_13 u1_14 u1_15 u1_16 : Value), n = l.length - k ∧ r = base [(.int .i64 y), v, undef, undef, (.int .i64 0), undef, u1_6, v, (.int .i64 ((l.length : Nat) : Int)), (.int .i64 (k : Int)), u1_10, u1_11, u1_12, u1_13, u1_14, u1_15, u1_16, undef] ∧ Has E w [R] ∧ (k ≤ l.length) ∧ (y = (l.take k).foldl min x)
  rw [show Go.Q.fr 18 _ = Go.Q.fr 18 (base [(.int .i64 x), v, undef, undef, (.int .i64 0), undef, undef, v, (.int .i64 ((l.length : Nat) : Int)), (.int .i64 (0 : Int)), undef, undef, undef, undef, undef, undef, undef, undef]) from fr_lit (by rfl)]
  refine c_loop I4 _ ⟨0, x, undef, undef, undef, undef, undef, undef, undef, undef, rfl, rfl, hH, Nat.zero_le _, rfl⟩ ?_
  rintro n_ r_ w5 ⟨k, y, u1_6, u1_10, u1_11, u1_12, u1_13, u1_14, u1_15, u1_16, rfl, rfl, hH6, hk, hy⟩
  refine wp_seq_k fun K7 hK7 => ?_
  refine c_region ?_
  refine s_op (o_lss (a := (k : Int)) (b := ((l.length : Nat) : Int)) rfl rfl ?_)
  refine s_nil ?_
  refine t_norm (hK7 _ _ ?_)
  refine wp_seq_k fun K8 hK8 => ?_
  refine c_cond rfl (fun h9 => ?_) (fun h9 => ?_)
  · -- (k : Int) < ((l.length : Nat) : Int)
    refine wp_skip ?_
    refine t_norm (hK8 _ _ ?_)
    refine wp_seq_k fun K10 hK10 => ?_
    refine wp_block ?_
    refine wp_seq_k fun K11 hK11 => ?_
    refine c_region ?_
    obtain ⟨x15, hx16⟩ : ∃ x, l[((k : Int)).toNat]? = some x := get_some (by omega)
    refine s_op (o_index1 Try.underlying28 ti3 rfl hv rfl (by omega) hx16 fun b12 o13 hc14 => ?_)
    refine s_op (o_load1 (v := (.int .i64 x15)) Try.underlying3 rfl rfl hH6 (seg_sub 0 rfl) hc14 ?_)
    refine s_op (o_assign (v := (.int .i64 x15)) rfl ?_)
    refine s_nil ?_
    refine t_norm (hK11 _ _ ?_)
    refine c_region ?_
    refine s_op (o_move (v := (.int .i64 y)) rfl ?_)
    refine s_op (o_move (v := (.int .i64 x15)) rfl ?_)
    refine s_op (o_min (a := y) (b := x15) rfl rfl ?_)
    refine s_op (o_assign (v := (.int .i64 (min y x15))) rfl ?_)
    refine s_nil ?_
    refine b_norm ?_
    refine t_norm (hK10 _ _ ?_)
    refine c_region ?_
    refine s_op (o_add (a := (k : Int)) (b := 1) rfl rfl (w64 (by omega) (by omega)) ?_)
    refine s_op (o_move (v := (.int .i64 ((k : Int) + 1))) rfl ?_)
    refine s_nil ?_
    refine t_norm ⟨l.length - (k + 1), base [(.int .i64 (min y x15)), v, undef, undef, (.int .i64 0), undef, (.int .i64 x15), v, (.int .i64 ((l.length : Nat) : Int)), (.int .i64 ((k : Int) + 1)), (.bool (decide ((k : Int) < ((l.length : Nat) : Int)))), (.pointer (some ⟨b12, o13, none⟩)), (.int .i64 x15), (.int .i64 y), (.int .i64 x15), (.int .i64 (min y x15)), (.int .i64 ((k : Int) + 1)), undef], fr_lit (by rfl), ?_, ?_⟩
    · omega
    · exact ⟨(k + 1), (min y x15), _, _, _, _, _, _, _, _, rfl, rfl, hH6, (by omega), (by rw [take_succ_of (by simpa using hx16), List.foldl_append, ← hy]; rfl)⟩
  · -- not: (k : Int) < ((l.length : Nat) : Int)
    refine wp_exit ?_
    refine t_exit (t_exit (x_in (?_)))
    refine t_norm (hK2 _ _ ?_)
    refine wp_seq_k fun K17 hK17 => ?_
    refine c_region ?_
    refine s_op (o_move (v := (.int .i64 y)) rfl ?_)
    refine s_op (o_assign (v := (.int .i64 y)) rfl ?_)
    refine s_nil ?_
    refine t_norm (hK17 _ _ ?_)
    refine wp_ret ?_
    refine c_ret1 Try.results32 (v := (.int .i64 y)) rfl ?_
    have e : k = l.length := by omega
    subst e
    rw [List.take_of_length_le (Nat.le_refl _)] at hy
    subst hy
    exact ⟨rfl, hH6⟩
set_option maxHeartbeats 4000000 in
theorem sum_c {E w : World} {R : List Hp} (hH : Has E w [R]) {v : Value} {l : List Int} (hv : Ints R v l) :
    Calls Try.prog 33 #[v] w fun e w' => e = .returned (.int .i64 (sumS 0 l)) ∧ Has E w' [R] := by
  have hn := hv.le
  refine c_enter (args := [v]) Try.func33 rfl Try.ntmps33 (by simp) ?_
  refine wp_seq_k fun K1 hK1 => ?_
  refine c_region ?_
  refine s_op (o_assign (v := (.int .i64 0)) rfl ?_)
  refine s_nil ?_
  refine t_norm (hK1 _ _ ?_)
  refine wp_seq_k fun K2 hK2 => ?_
  refine c_region ?_
  refine s_op (o_assign (v := (.int .i64 0)) rfl ?_)
  refine s_nil ?_
  refine t_norm (hK2 _ _ ?_)
  refine wp_seq_k fun K3 hK3 => ?_
  refine wp_seq_k fun K4 hK4 => ?_
  refine c_region ?_
  refine s_op (o_move (v := v) rfl ?_)
  refine s_op (o_lenS Try.underlying28 rfl hv ?_)
  refine s_op (o_move (v := (.int .i64 0)) rfl ?_)
  refine s_nil ?_
  refine t_norm (hK4 _ _ ?_)
  refine wp_block ?_
  let I5 : Nat → (Nat → Value) → World → Prop := fun n r w => ∃ (k : Nat) (y : Int) (u1_2 u1_5 u1_9 u1_10 u1_11 u1_12 u1_13 u1_14 u1_15 u1_16 u1_17 u1_18 u1_19 u1_20 : Value), n = l.length - k ∧ r = base [v, undef, u1_2, (.int .i64 y), undef, u1_5, v, (.int .i64 ((l.length : Nat) : Int)), (.int .i64 (k : Int)), u1_9, u1_10, u1_11, u1_12, u1_13, u1_14, u1_15, u1_16, u1_17, u1_18, u1_19, u1_20, undef] ∧ Has E w [R] ∧ (k ≤ l.length) ∧ (sumS 0 l = sumS y (l.drop k)) ∧ (0 ≤ y ∧ y ≤ 9223372036854775807)
  rw [show Go.Q.fr 22 _ = Go.Q.fr 22 (base [v, undef, (.int .i64 0), (.int .i64 0), undef, undef, v, (.int .i64 ((l.length : Nat) : Int)), (.int .i64 (0 : Int)), undef, undef, undef, undef, undef, undef, undef, undef, undef, undef, undef, undef, undef]) from fr_lit (by rfl)]
  refine c_loop I5 _ ⟨0, 0, (.int .i64 0), undef, undef, undef, undef, undef, undef, undef, undef, undef, undef, undef, undef, undef, rfl, rfl, hH, Nat.zero_le _, rfl, (by omega)⟩ ?_
  rintro n_ r_ w6 ⟨k, y, u1_2, u1_5, u1_9, u1_10, u1_11, u1_12, u1_13, u1_14, u1_15, u1_16, u1_17, u1_18, u1_19, u1_20, rfl, rfl, hH7, hk, hy, hb⟩
  refine wp_seq_k fun K8 hK8 => ?_
  refine c_region ?_
  refine s_op (o_lss (a := (k : Int)) (b := ((l.length : Nat) : Int)) rfl rfl ?_)
  refine s_nil ?_
  refine t_norm (hK8 _ _ ?_)
  refine wp_seq_k fun K9 hK9 => ?_
  refine c_cond rfl (fun h10 => ?_) (fun h10 => ?_)
  · -- (k : Int) < ((l.length : Nat) : Int)
    refine wp_skip ?_
    refine t_norm (hK9 _ _ ?_)
    refine wp_seq_k fun K11 hK11 => ?_
    refine wp_block ?_
    refine wp_seq_k fun K12 hK12 => ?_
    refine c_region ?_
    obtain ⟨x16, hx17⟩ : ∃ x, l[((k : Int)).toNat]? = some x := get_some (by omega)
    refine s_op (o_index1 Try.underlying28 ti3 rfl hv rfl (by omega) hx17 fun b13 o14 hc15 => ?_)
    refine s_op (o_load1 (v := (.int .i64 x16)) Try.underlying3 rfl rfl hH7 (seg_sub 0 rfl) hc15 ?_)
    refine s_op (o_assign (v := (.int .i64 x16)) rfl ?_)
    refine s_nil ?_
    refine t_norm (hK12 _ _ ?_)
    refine wp_seq_k fun K18 hK18 => ?_
    refine wp_seq_k fun K19 hK19 => ?_
    refine c_region ?_
    refine s_op (o_move (v := (.int .i64 x16)) rfl ?_)
    refine s_op (o_move (v := (.int .i64 y)) rfl ?_)
    refine s_op (o_sub (a := 9223372036854775807) (b := y) rfl rfl (w64 (by omega) (by omega)) ?_)
    refine s_op (o_gtr (a := x16) (b := 9223372036854775807 - y) rfl rfl ?_)
    refine s_nil ?_
    refine t_norm (hK19 _ _ ?_)
    refine c_cond rfl (fun h20 => ?_) (fun h20 => ?_)
    · -- 9223372036854775807 - y < x16
      refine wp_seq_k fun K21 hK21 => ?_
      refine c_region ?_
      refine s_op (o_assign (v := (.int .i64 9223372036854775807)) rfl ?_)
      refine s_nil ?_
      refine t_norm (hK21 _ _ ?_)
      refine wp_ret ?_
      refine t_ret (b_ret (t_ret (t_ret (b_ret (t_ret (c_ret1 Try.results33 (v := (.int .i64 9223372036854775807)) rfl ?_))))))
      exact ⟨by rw [hy, drop_of (by simpa using hx17), sumS, if_pos (by omega)], hH7⟩
    · -- not: 9223372036854775807 - y < x16
      refine wp_skip ?_
      refine t_norm (hK18 _ _ ?_)
      refine c_region ?_
      refine s_op (o_move (v := (.int .i64 y)) rfl ?_)
      refine s_op (o_move (v := (.int .i64 x16)) rfl ?_)
      refine s_op (o_max (a := x16) (b := 0) rfl rfl ?_)
      refine s_op (o_add (a := y) (b := max x16 0) rfl rfl (w64 (by omega) (by omega)) ?_)
      refine s_op (o_assign (v := (.int .i64 (y + (max x16 0)))) rfl ?_)
      refine s_nil ?_
      refine b_norm ?_
      refine t_norm (hK11 _ _ ?_)
      refine c_region ?_
      refine s_op (o_add (a := (k : Int)) (b := 1) rfl rfl (w64 (by omega) (by omega)) ?_)
      refine s_op (o_move (v := (.int .i64 ((k : Int) + 1))) rfl ?_)
      refine s_nil ?_
      refine t_norm ⟨l.length - (k + 1), base [v, undef, u1_2, (.int .i64 (y + (max x16 0))), undef, (.int .i64 x16), v, (.int .i64 ((l.length : Nat) : Int)), (.int .i64 ((k : Int) + 1)), (.bool (decide ((k : Int) < ((l.length : Nat) : Int)))), (.pointer (some ⟨b13, o14, none⟩)), (.int .i64 x16), (.int .i64 x16), (.int .i64 y), (.int .i64 (9223372036854775807 - y)), (.bool (decide (9223372036854775807 - y < x16))), (.int .i64 y), (.int .i64 x16), (.int .i64 (max x16 0)), (.int .i64 (y + (max x16 0))), (.int .i64 ((k : Int) + 1)), undef], fr_lit (by rfl), ?_, ?_⟩
      · omega
      · exact ⟨(k + 1), (y + (max x16 0)), _, _, _, _, _, _, _, _, _, _, _, _, _, _, rfl, rfl, hH7, (by omega), (by rw [hy, drop_of (by simpa using hx17), sumS, if_neg (by omega)]), (by omega)⟩
  · -- not: (k : Int) < ((l.length : Nat) : Int)
    refine wp_exit ?_
    refine t_exit (t_exit (x_in (?_)))
    refine t_norm (hK3 _ _ ?_)
    refine wp_seq_k fun K22 hK22 => ?_
    refine c_region ?_
    refine s_op (o_move (v := (.int .i64 y)) rfl ?_)
    refine s_op (o_assign (v := (.int .i64 y)) rfl ?_)
    refine s_nil ?_
    refine t_norm (hK22 _ _ ?_)
    refine wp_ret ?_
    refine c_ret1 Try.results33 (v := (.int .i64 y)) rfl ?_
    exact ⟨by rw [hy, List.drop_of_length_le (by omega)]; rfl, hH7⟩
set_option maxHeartbeats 4000000 in
theorem fits_c {E w : World} {R : List Hp} (hH : Has E w [R]) (n : Int) (m : Nat) (hm : m ≤ 8) :
    Calls Try.prog 47 #[(.int .i64 n), (.int .i64 (m : Int))] w fun e w' => e = .returned (.bool (fitsS n m)) ∧ Has E w' [R] := by
  refine c_enter (args := [(.int .i64 n), (.int .i64 (m : Int))]) Try.func47 rfl Try.ntmps47 (by simp) ?_
  refine wp_seq_k fun K1 hK1 => ?_
  refine c_region ?_
  refine s_op (o_assign (v := (.bool false)) rfl ?_)
  refine s_nil ?_
  refine t_norm (hK1 _ _ ?_)
  refine wp_seq_k fun K2 hK2 => ?_
  refine c_region ?_
  refine s_op (o_move (v := (.int .i64 n)) rfl ?_)
  refine s_op (o_geq (a := n) (b := 0) rfl rfl ?_)
  refine s_op (o_move (v := (.bool (decide (0 ≤ n)))) rfl ?_)
  by_cases h3 : 0 ≤ n
  · -- 0 ≤ n
    refine s_on 7 rfl (congrArg Value.bool (decide_eq_true h3)) (o_move (v := (.int .i64 (m : Int))) rfl ?_)
    refine s_on 7 rfl (congrArg Value.bool (decide_eq_true h3)) (o_eql (a := (m : Int)) (b := 8) rfl rfl ?_)
    refine s_on 7 rfl (congrArg Value.bool (decide_eq_true h3)) (o_move (v := (.bool (decide ((m : Int) = 8)))) rfl ?_)
    by_cases h4 : (m : Int) = 8
    · -- (m : Int) = 8
      refine s_off (b' := true) 10 rfl (congrArg Value.bool (decide_eq_true h4)) rfl ?_
      refine s_off (b' := true) 10 rfl (congrArg Value.bool (decide_eq_true h4)) rfl ?_
      refine s_off (b' := true) 10 rfl (congrArg Value.bool (decide_eq_true h4)) rfl ?_
      refine s_off (b' := true) 10 rfl (congrArg Value.bool (decide_eq_true h4)) rfl ?_
      refine s_off (b' := true) 10 rfl (congrArg Value.bool (decide_eq_true h4)) rfl ?_
      refine s_on 7 rfl (congrArg Value.bool (decide_eq_true h3)) (o_pick_t (u := (.bool true)) ((rfl : _ = _).trans (congrArg Value.bool (decide_eq_true h4))) rfl ?_)
      refine s_op (o_pick_t (u := (.bool true)) ((rfl : _ = _).trans (congrArg Value.bool (decide_eq_true h3))) rfl ?_)
      refine s_op (o_assign (v := (.bool true)) rfl ?_)
      refine s_nil ?_
      refine t_norm (hK2 _ _ ?_)
      refine wp_ret ?_
      refine c_ret1 Try.results47 (v := (.bool true)) rfl ?_
      exact ⟨by simp [fitsS, *], hH⟩
    · -- not: (m : Int) = 8
      refine s_on 10 rfl (congrArg Value.bool (decide_eq_false h4)) (o_move (v := (.int .i64 n)) rfl ?_)
      refine s_on 10 rfl (congrArg Value.bool (decide_eq_false h4)) (o_move (v := (.int .i64 (m : Int))) rfl ?_)
      refine s_on 10 rfl (congrArg Value.bool (decide_eq_false h4)) (o_mul (a := 8) (b := (m : Int)) rfl rfl (w64 (by omega) (by omega)) ?_)
      refine s_on 10 rfl (congrArg Value.bool (decide_eq_false h4)) (o_shr (c := Int.fdiv n (2 ^ (min (8 * (m : Int)).toNat 64))) rfl rfl (by omega) rfl ?_)
      refine s_on 10 rfl (congrArg Value.bool (decide_eq_false h4)) (o_eql (a := Int.fdiv n (2 ^ (min (8 * (m : Int)).toNat 64))) (b := 0) rfl rfl ?_)
      refine s_on 7 rfl (congrArg Value.bool (decide_eq_true h3)) (o_pick_f (u := (.bool (decide (Int.fdiv n (2 ^ (min (8 * (m : Int)).toNat 64)) = 0)))) ((rfl : _ = _).trans (congrArg Value.bool (decide_eq_false h4))) rfl ?_)
      refine s_op (o_pick_t (u := (.bool (decide (Int.fdiv n (2 ^ (min (8 * (m : Int)).toNat 64)) = 0)))) ((rfl : _ = _).trans (congrArg Value.bool (decide_eq_true h3))) rfl ?_)
      refine s_op (o_assign (v := (.bool (decide (Int.fdiv n (2 ^ (min (8 * (m : Int)).toNat 64)) = 0)))) rfl ?_)
      refine s_nil ?_
      refine t_norm (hK2 _ _ ?_)
      refine wp_ret ?_
      refine c_ret1 Try.results47 (v := (.bool (decide (Int.fdiv n (2 ^ (min (8 * (m : Int)).toNat 64)) = 0)))) rfl ?_
      exact ⟨by simp [fitsS, *], hH⟩
  · -- not: 0 ≤ n
    refine s_off (b' := false) 7 rfl (congrArg Value.bool (decide_eq_false h3)) rfl ?_
    refine s_off (b' := false) 7 rfl (congrArg Value.bool (decide_eq_false h3)) rfl ?_
    refine s_off (b' := false) 7 rfl (congrArg Value.bool (decide_eq_false h3)) rfl ?_
    refine s_offu 10 rfl rfl ?_
    refine s_offu 10 rfl rfl ?_
    refine s_offu 10 rfl rfl ?_
    refine s_offu 10 rfl rfl ?_
    refine s_offu 10 rfl rfl ?_
    refine s_off (b' := false) 7 rfl (congrArg Value.bool (decide_eq_false h3)) rfl ?_
    refine s_op (o_pick_f (u := (.bool false)) ((rfl : _ = _).trans (congrArg Value.bool (decide_eq_false h3))) rfl ?_)
    refine s_op (o_assign (v := (.bool false)) rfl ?_)
    refine s_nil ?_
    refine t_norm (hK2 _ _ ?_)
    refine wp_ret ?_
    refine c_ret1 Try.results47 (v := (.bool false)) rfl ?_
    exact ⟨by simp [fitsS, *], hH⟩
end Go.Q
