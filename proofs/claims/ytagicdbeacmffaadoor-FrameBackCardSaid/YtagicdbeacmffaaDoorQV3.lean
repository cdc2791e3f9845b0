/-
  Parts of a walk: what functions of the program compute, each told by a theorem.
-/
import Derived.Test.YtagicdbeacmffaaDoorQV2
set_option linter.unusedVariables false
set_option linter.unusedSimpArgs false
namespace Go.Q
open Go.Proofs
set_option linter.unusedVariables false
set_option maxRecDepth 100000
attribute [local irreducible] wpList OK Code.wp
set_option maxHeartbeats 4000000 in
theorem lawjoin_c {E w : World} {R : List Hp} (hH : Has E w [R]) {v : Value} {l : List (List UInt8)} (hv : Sl R 1 v l.length (l.map sV)) (hlb : ∀ x ∈ l, x.length ≤ 9223372036854775807) :
    Calls Tryd.prog 12 #[v] w fun e w' => ∃ t b, e = .returned (.tuple #[S t, .bool b]) ∧ (b = true → l.length ≤ 20 ∧ t = l.flatten ∧ l.flatten.length ≤ 2000) ∧ Has E w' [R] := by
  have hn := hv.le
  have hx_ := fun (x : List UInt8) (hx : x ∈ l) => hlb x hx
  refine c_enter (args := [v]) Tryd.func12 rfl Tryd.ntmps12 (by simp) ?_
  refine wp_seq_k fun K1 hK1 => ?_
  refine c_region ?_
  refine s_op (o_assign (v := (S ([] : List UInt8))) rfl ?_)
  refine s_op (o_assign (v := (.bool false)) rfl ?_)
  refine s_nil ?_
  refine t_norm (hK1 _ _ ?_)
  refine wp_seq_k fun K2 hK2 => ?_
  refine c_region ?_
  refine s_op (o_assign (v := (S ([] : List UInt8))) rfl ?_)
  refine s_nil ?_
  refine t_norm (hK2 _ _ ?_)
  refine wp_seq_k fun K3 hK3 => ?_
  refine wp_seq_k fun K4 hK4 => ?_
  refine c_region ?_
  refine s_op (o_assign (v := (.int .i64 0)) rfl ?_)
  refine s_nil ?_
  refine t_norm (hK4 _ _ ?_)
  refine wp_block ?_
  let I6 : Nat → (Nat → Value) → World → Prop := fun n__ r__ w__ => ∃ (k : Nat) (t : List UInt8), n__ = l.length - k ∧ Has E w__ [R] ∧ (k ≤ l.length) ∧ (k ≤ 20) ∧ (t = (l.take k).flatten) ∧ (t.length ≤ 1000 * k) ∧ r__ 0 = v ∧ r__ 4 = (S t) ∧ r__ 5 = (.int .i64 (k : Int))
  refine c_loop I6 _ ⟨0, [], rfl, hH, Nat.zero_le _, (by omega), rfl, (by simp), rfl, rfl, rfl⟩ ?_
  rintro n_ r9 w7 ⟨k, t, rfl, hH8, hk, hk2, ht, htl, e5_0, e5_4, e5_5⟩
  refine wp_seq_k fun K10 hK10 => ?_
  refine wp_seq_k fun K11 hK11 => ?_
  refine c_region ?_
  refine s_op (o_move (v := (.int .i64 (k : Int))) e5_5 ?_)
  refine s_op (o_move (v := v) e5_0 ?_)
  refine s_op (o_lenS Tryd.underlying22 rfl hv ?_)
  refine s_op (o_lss (a := (k : Int)) (b := ((l.length : Nat) : Int)) rfl rfl ?_)
  refine s_op (o_move (v := (.bool (decide ((k : Int) < ((l.length : Nat) : Int))))) rfl ?_)
  by_cases h12 : (k : Int) < ((l.length : Nat) : Int)
  · -- (k : Int) < ((l.length : Nat) : Int)
    refine s_on 10 rfl (congrArg Value.bool (decide_eq_true h12)) (o_move (v := (.int .i64 (k : Int))) e5_5 ?_)
    refine s_on 10 rfl (congrArg Value.bool (decide_eq_true h12)) (o_lss (a := (k : Int)) (b := 20) rfl rfl ?_)
    refine s_op (o_pick_t (u := (.bool (decide ((k : Int) < 20)))) ((rfl : _ = _).trans (congrArg Value.bool (decide_eq_true h12))) rfl ?_)
    refine s_nil ?_
    refine t_norm (hK11 _ _ ?_)
    refine c_cond rfl (fun h13 => ?_) (fun h13 => ?_)
    · -- (k : Int) < 20
      refine wp_skip ?_
      refine t_norm (hK10 _ _ ?_)
      refine wp_seq_k fun K14 hK14 => ?_
      refine wp_block ?_
      refine wp_seq_k fun K15 hK15 => ?_
      refine wp_seq_k fun K16 hK16 => ?_
      refine c_region ?_
      refine s_op (o_move (v := v) e5_0 ?_)
      refine s_op (o_move (v := (.int .i64 (k : Int))) e5_5 ?_)
      obtain ⟨x20, hx21⟩ : ∃ x_, l[((k : Int)).toNat]? = some x_ := get_some (by omega)
      refine s_op (o_index1 Tryd.underlying22 ti9 rfl hv rfl (by omega) hx21 fun b17 o18 hc19 => ?_)
      refine s_op (o_load1 (v := (S x20)) Tryd.underlying9 rfl rfl hH8 (seg_sub 0 rfl) hc19 ?_)
      refine s_op (o_slen Tryd.underlying9 rfl ?_)
      refine s_op (o_gtr (a := (x20.length : Int)) (b := 1000) rfl rfl ?_)
      refine s_nil ?_
      refine t_norm (hK16 _ _ ?_)
      refine c_cond rfl (fun h22 => ?_) (fun h22 => ?_)
      · -- 1000 < (x20.length : Int)
        refine wp_seq_k fun K23 hK23 => ?_
        refine c_region ?_
        refine s_op (o_assign (v := (S ([] : List UInt8))) rfl ?_)
        refine s_op (o_assign (v := (.bool false)) rfl ?_)
        refine s_nil ?_
        refine t_norm (hK23 _ _ ?_)
        refine wp_ret ?_
        refine t_ret (b_ret (t_ret (t_ret (b_ret (t_ret (c_ret2 Tryd.results12 (v := (S ([] : List UInt8))) rfl (x := (.bool false)) rfl ?_))))))
        exact ⟨_, false, rfl, fun h => (by cases h), hH8⟩
      · -- not: 1000 < (x20.length : Int)
        refine wp_skip ?_
        refine t_norm (hK15 _ _ ?_)
        refine c_region ?_
        refine s_op (o_move (v := (S t)) e5_4 ?_)
        refine s_op (o_move (v := v) e5_0 ?_)
        refine s_op (o_move (v := (.int .i64 (k : Int))) e5_5 ?_)
        refine s_op (o_index1 Tryd.underlying22 ti9 rfl hv rfl (by omega) hx21 fun b24 o25 hc26 => ?_)
        refine s_op (o_load1 (v := (S x20)) Tryd.underlying9 rfl rfl hH8 (seg_sub 0 rfl) hc26 ?_)
        refine s_op (o_sadd rfl rfl (by omega) ?_)
        refine s_op (o_assign (v := (S (t ++ x20))) rfl ?_)
        refine s_nil ?_
        refine b_norm ?_
        refine t_norm (hK14 _ _ ?_)
        refine c_region ?_
        refine s_op (o_move (v := (.int .i64 (k : Int))) e5_5 ?_)
        refine s_op (o_add (a := (k : Int)) (b := 1) rfl rfl (w64 (by omega) (by omega)) ?_)
        refine s_op (o_assign (v := (.int .i64 ((k : Int) + 1))) rfl ?_)
        refine s_nil ?_
        refine t_norm ⟨l.length - (k + 1), _, rfl, ?_, ?_⟩
        · omega
        · exact ⟨(k + 1), (t ++ x20), rfl, hH8, (by omega), (by omega), (by rw [take_succ_of (show l[k]? = some _ from hx21), List.flatten_append, ← ht]; simp), (by rw [List.length_append]; omega), e5_0, rfl, rfl⟩
    · -- not: (k : Int) < 20
      refine wp_exit ?_
      refine t_exit (t_exit (x_in (?_)))
      refine t_norm (hK3 _ _ ?_)
      refine wp_seq_k fun K27 hK27 => ?_
      refine c_region ?_
      refine s_op (o_move (v := (S t)) e5_4 ?_)
      refine s_op (o_move (v := v) e5_0 ?_)
      refine s_op (o_lenS Tryd.underlying22 rfl hv ?_)
      refine s_op (o_leq (a := ((l.length : Nat) : Int)) (b := 20) rfl rfl ?_)
      refine s_op (o_move (v := (.bool (decide (((l.length : Nat) : Int) ≤ 20)))) rfl ?_)
      by_cases h28 : ((l.length : Nat) : Int) ≤ 20
      · -- ((l.length : Nat) : Int) ≤ 20
        refine s_on 32 rfl (congrArg Value.bool (decide_eq_true h28)) (o_move (v := (S t)) e5_4 ?_)
        refine s_on 32 rfl (congrArg Value.bool (decide_eq_true h28)) (o_slen Tryd.underlying9 rfl ?_)
        refine s_on 32 rfl (congrArg Value.bool (decide_eq_true h28)) (o_leq (a := (t.length : Int)) (b := 2000) rfl rfl ?_)
        refine s_op (o_pick_t (u := (.bool (decide ((t.length : Int) ≤ 2000)))) ((rfl : _ = _).trans (congrArg Value.bool (decide_eq_true h28))) rfl ?_)
        refine s_op (o_assign (v := (S t)) rfl ?_)
        refine s_op (o_assign (v := (.bool (decide ((t.length : Int) ≤ 2000)))) rfl ?_)
        refine s_nil ?_
        refine t_norm (hK27 _ _ ?_)
        refine wp_ret ?_
        refine c_ret2 Tryd.results12 (v := (S t)) rfl (x := (.bool (decide ((t.length : Int) ≤ 2000)))) rfl ?_
        exact ⟨_, _, rfl, fun h => lawjoin_end ht (by omega) hk2 (by have := of_decide_eq_true h; omega), hH8⟩
      · -- not: ((l.length : Nat) : Int) ≤ 20
        refine s_off (b' := false) 32 rfl (congrArg Value.bool (decide_eq_false h28)) rfl ?_
        refine s_off (b' := false) 32 rfl (congrArg Value.bool (decide_eq_false h28)) rfl ?_
        refine s_off (b' := false) 32 rfl (congrArg Value.bool (decide_eq_false h28)) rfl ?_
        refine s_op (o_pick_f (u := (.bool false)) ((rfl : _ = _).trans (congrArg Value.bool (decide_eq_false h28))) rfl ?_)
        refine s_op (o_assign (v := (S t)) rfl ?_)
        refine s_op (o_assign (v := (.bool false)) rfl ?_)
        refine s_nil ?_
        refine t_norm (hK27 _ _ ?_)
        refine wp_ret ?_
        refine c_ret2 Tryd.results12 (v := (S t)) rfl (x := (.bool false)) rfl ?_
        exact ⟨_, false, rfl, fun h => (by cases h), hH8⟩
  · -- not: (k : Int) < ((l.length : Nat) : Int)
    refine s_off (b' := false) 10 rfl (congrArg Value.bool (decide_eq_false h12)) rfl ?_
    refine s_off (b' := false) 10 rfl (congrArg Value.bool (decide_eq_false h12)) rfl ?_
    refine s_op (o_pick_f (u := (.bool false)) ((rfl : _ = _).trans (congrArg Value.bool (decide_eq_false h12))) rfl ?_)
    refine s_nil ?_
    refine t_norm (hK11 _ _ ?_)
    refine c_false rfl rfl ?_
    refine wp_exit ?_
    refine t_exit (t_exit (x_in (?_)))
    refine t_norm (hK3 _ _ ?_)
    refine wp_seq_k fun K29 hK29 => ?_
    refine c_region ?_
    refine s_op (o_move (v := (S t)) e5_4 ?_)
    refine s_op (o_move (v := v) e5_0 ?_)
    refine s_op (o_lenS Tryd.underlying22 rfl hv ?_)
    refine s_op (o_leq (a := ((l.length : Nat) : Int)) (b := 20) rfl rfl ?_)
    refine s_op (o_move (v := (.bool (decide (((l.length : Nat) : Int) ≤ 20)))) rfl ?_)
    by_cases h30 : ((l.length : Nat) : Int) ≤ 20
    · -- ((l.length : Nat) : Int) ≤ 20
      refine s_on 32 rfl (congrArg Value.bool (decide_eq_true h30)) (o_move (v := (S t)) e5_4 ?_)
      refine s_on 32 rfl (congrArg Value.bool (decide_eq_true h30)) (o_slen Tryd.underlying9 rfl ?_)
      refine s_on 32 rfl (congrArg Value.bool (decide_eq_true h30)) (o_leq (a := (t.length : Int)) (b := 2000) rfl rfl ?_)
      refine s_op (o_pick_t (u := (.bool (decide ((t.length : Int) ≤ 2000)))) ((rfl : _ = _).trans (congrArg Value.bool (decide_eq_true h30))) rfl ?_)
      refine s_op (o_assign (v := (S t)) rfl ?_)
      refine s_op (o_assign (v := (.bool (decide ((t.length : Int) ≤ 2000)))) rfl ?_)
      refine s_nil ?_
      refine t_norm (hK29 _ _ ?_)
      refine wp_ret ?_
      refine c_ret2 Tryd.results12 (v := (S t)) rfl (x := (.bool (decide ((t.length : Int) ≤ 2000)))) rfl ?_
      exact ⟨_, _, rfl, fun h => lawjoin_end ht (by omega) hk2 (by have := of_decide_eq_true h; omega), hH8⟩
    · -- not: ((l.length : Nat) : Int) ≤ 20
      refine s_off (b' := false) 32 rfl (congrArg Value.bool (decide_eq_false h30)) rfl ?_
      refine s_off (b' := false) 32 rfl (congrArg Value.bool (decide_eq_false h30)) rfl ?_
      refine s_off (b' := false) 32 rfl (congrArg Value.bool (decide_eq_false h30)) rfl ?_
      refine s_op (o_pick_f (u := (.bool false)) ((rfl : _ = _).trans (congrArg Value.bool (decide_eq_false h30))) rfl ?_)
      refine s_op (o_assign (v := (S t)) rfl ?_)
      refine s_op (o_assign (v := (.bool false)) rfl ?_)
      refine s_nil ?_
      refine t_norm (hK29 _ _ ?_)
      refine wp_ret ?_
      refine c_ret2 Tryd.results12 (v := (S t)) rfl (x := (.bool false)) rfl ?_
      exact ⟨_, false, rfl, fun h => (by cases h), hH8⟩
end Go.Q
