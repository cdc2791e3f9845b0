/-
  Parts of a walk: what functions of the program compute, each told by a theorem.
-/
import Derived.Test.YtagicdbeacmffaaDoorQV11
set_option linter.unusedVariables false
set_option linter.unusedSimpArgs false
namespace Go.Q
open Go.Proofs
set_option linter.unusedVariables false
set_option maxRecDepth 100000
attribute [local irreducible] wpList OK Code.wp
theorem sum2_c {E w : World} {R : List Hp} (hH : Has E w [R]) {v : Value} {a b : Int} (hv : Ints R v [a, b]) (ha : 0 ≤ a) (hb : 0 ≤ b) (hab : a + b ≤ 4000000000000000000) :
    Calls Tryd.prog 42 #[v] w fun e w' => e = .returned (.int .i64 (a + b)) ∧ Has E w' [R] := by
  have h := sum_c hH hv
  rw [sumS_two ha hb hab] at h
  exact h
set_option maxHeartbeats 4000000 in
theorem size_c {E w : World} {R : List Hp} (hH : Has E w [R]) {v : Value} {l : List (List UInt8)} (hv : Sl R 1 v l.length (l.map sV)) (hn : l.length ≤ 1000000) (hl : l.flatten.length ≤ 1000000000) :
    Calls Tryd.prog 35 #[v] w fun e w' => e = .returned (.int .i64 (25 + (l.flatten.length : Int))) ∧ Has E w' [R] := by
  have hn_ := hv.le
  refine c_enter (args := [v]) Tryd.func35 rfl Tryd.ntmps35 (by simp) ?_
  refine wp_seq_k fun K1 hK1 => ?_
  refine c_region ?_
  refine s_op (o_assign (v := (.int .i64 0)) rfl ?_)
  refine s_nil ?_
  refine t_norm (hK1 _ _ ?_)
  refine wp_seq_k fun K2 hK2 => ?_
  refine c_region ?_
  refine s_op (o_assign (v := (.int .i64 25)) rfl ?_)
  refine s_nil ?_
  refine t_norm (hK2 _ _ ?_)
  refine wp_seq_k fun K3 hK3 => ?_
  refine wp_seq_k fun K4 hK4 => ?_
  refine c_region ?_
  refine s_op (o_move (v := v) rfl ?_)
  refine s_op (o_lenS Tryd.underlying22 rfl hv ?_)
  refine s_op (o_move (v := (.int .i64 0)) rfl ?_)
  refine s_nil ?_
  refine t_norm (hK4 _ _ ?_)
  refine wp_block ?_
  let I6 : Nat → (Nat → Value) → World → Prop := fun n__ r__ w__ => ∃ (k : Nat) (y : Int), n__ = l.length - k ∧ Has E w__ [R] ∧ (k ≤ l.length) ∧ (y = 25 + ((l.take k).flatten.length : Int)) ∧ (25 ≤ y ∧ y ≤ 2000000000) ∧ r__ 0 = v ∧ r__ 2 = (.int .i64 0) ∧ r__ 3 = (.int .i64 y) ∧ r__ 6 = v ∧ r__ 7 = (.int .i64 ((l.length : Nat) : Int)) ∧ r__ 8 = (.int .i64 (k : Int))
  refine c_loop I6 _ ⟨0, 25, rfl, hH, Nat.zero_le _, rfl, (by omega), rfl, rfl, rfl, rfl, rfl, rfl⟩ ?_
  rintro n_ r9 w7 ⟨k, y, rfl, hH8, hk, hy, hyb, e5_0, e5_2, e5_3, e5_6, e5_7, e5_8⟩
  refine wp_seq_k fun K10 hK10 => ?_
  refine c_region ?_
  refine s_op (o_lss (a := (k : Int)) (b := ((l.length : Nat) : Int)) e5_8 e5_7 ?_)
  refine s_nil ?_
  refine t_norm (hK10 _ _ ?_)
  refine wp_seq_k fun K11 hK11 => ?_
  refine c_cond rfl (fun h12 => ?_) (fun h12 => ?_)
  · -- (k : Int) < ((l.length : Nat) : Int)
    refine wp_skip ?_
    refine t_norm (hK11 _ _ ?_)
    refine wp_seq_k fun K13 hK13 => ?_
    refine wp_block ?_
    refine wp_seq_k fun K14 hK14 => ?_
    refine c_region ?_
    obtain ⟨x18, hx19⟩ : ∃ x_, l[((k : Int)).toNat]? = some x_ := get_some (by omega)
    refine s_op (o_index1 Tryd.underlying22 ti9 e5_6 hv e5_8 (by omega) hx19 fun b15 o16 hc17 => ?_)
    have hxl := flat_le (List.mem_of_getElem? hx19)
    have htk := take_flat_le l k hx19
    refine s_op (o_load1 (v := (S x18)) Tryd.underlying9 rfl rfl hH8 (seg_sub 0 rfl) hc17 ?_)
    refine s_op (o_assign (v := (S x18)) rfl ?_)
    refine s_nil ?_
    refine t_norm (hK14 _ _ ?_)
    refine c_region ?_
    refine s_op (o_move (v := (.int .i64 y)) e5_3 ?_)
    refine s_op (o_move (v := (S x18)) rfl ?_)
    refine s_op (o_slen Tryd.underlying9 rfl ?_)
    refine s_op (o_buildSlice (ps := #[(0, (.int .i64 y)), (1, (.int .i64 (x18.length : Int)))]) (cells := #[(.int .i64 y), (.int .i64 (x18.length : Int))]) Tryd.underlying37 ti3 (by decide) (parts2 rfl rfl) (by kernel_rfl) hH8 fun b20 w21 hH22 => ?_)
    refine s_op (o_callf (vs := #[(.slice (some ⟨b20, 0, none⟩) 2 2)]) ca42 rfl (args1 rfl) (sum2_c hH22.all (a := y) (b := (x18.length : Int)) ((sl_lit (f := iV) (l := [y, (x18.length : Int)]) rfl rfl (by simp)).mono (seg_sub 0 rfl)) (by omega) (by omega) (by omega)) ?_)
    rintro _ w25 ⟨rfl, hX23⟩
    refine ⟨_, rfl, ?_⟩
    have hH24 := hX23.of_all
    refine s_op (o_assign (v := (.int .i64 (y + (x18.length : Int)))) rfl ?_)
    refine s_nil ?_
    refine b_norm ?_
    refine t_norm (hK13 _ _ ?_)
    refine c_region ?_
    refine s_op (o_add (a := (k : Int)) (b := 1) e5_8 rfl (w64 (by omega) (by omega)) ?_)
    refine s_op (o_move (v := (.int .i64 ((k : Int) + 1))) rfl ?_)
    refine s_nil ?_
    have hH26 : Has E w25 [R] := (hH24.front 1 rfl).first 1 rfl
    refine t_norm ⟨l.length - (k + 1), _, rfl, ?_, ?_⟩
    · omega
    · exact ⟨(k + 1), (y + (x18.length : Int)), rfl, hH26, (by omega), (by rw [take_succ_of (show l[k]? = some _ from hx19), List.flatten_append, List.length_append, hy]; simp; omega), (by omega), e5_0, e5_2, rfl, e5_6, e5_7, rfl⟩
  · -- not: (k : Int) < ((l.length : Nat) : Int)
    refine wp_exit ?_
    refine t_exit (t_exit (x_in (?_)))
    refine t_norm (hK3 _ _ ?_)
    refine wp_seq_k fun K27 hK27 => ?_
    refine c_region ?_
    refine s_op (o_move (v := (.int .i64 y)) e5_3 ?_)
    refine s_op (o_assign (v := (.int .i64 y)) rfl ?_)
    refine s_nil ?_
    refine t_norm (hK27 _ _ ?_)
    refine wp_ret ?_
    refine c_ret1 Tryd.results35  (v := (.int .i64 y)) rfl ?_
    have e : k = l.length := by omega
    rw [e, List.take_length] at hy
    exact ⟨by rw [hy], hH8⟩
end Go.Q
