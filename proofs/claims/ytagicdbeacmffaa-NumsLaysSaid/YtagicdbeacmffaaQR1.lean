/-
  Parts of a walk: what functions of the program compute, each told by a theorem.
-/
import Derived.Test.YtagicdbeacmffaaQJ
import Derived.Test.YtagicdbeacmffaaQM
import Derived.Test.YtagicdbeacmffaaQBase
set_option linter.unusedVariables false
set_option linter.unusedSimpArgs false
namespace Go.Q
open Go.Proofs
set_option linter.unusedVariables false
set_option maxRecDepth 100000
attribute [local irreducible] wpList OK Code.wp
set_option maxHeartbeats 4000000 in
theorem refPut_c {E w : World} {R : List Hp} (hH : Has E w [R]) (m : Nat) (hm : 1 ≤ m ∧ m ≤ 8) (n : Int) (hn : -9223372036854775808 ≤ n ∧ n ≤ 9223372036854775807) :
    Calls Try.prog 28 #[(.int .i64 (m : Int)), (.int .i64 n)] w fun e w' => ∃ t : List UInt8, e = .returned (.tuple #[S t, .bool (fitsS n m)]) ∧ t.length = m ∧ (fitsS n m = true → t = beFrom n m) ∧ Has E w' [R] := by
  refine c_enter (args := [(.int .i64 (m : Int)), (.int .i64 n)]) Try.func28 rfl Try.ntmps28 (by simp) ?_
  refine wp_seq_k fun K1 hK1 => ?_
  refine c_region ?_
  refine s_op (o_assign (v := (S ([] : List UInt8))) rfl ?_)
  refine s_op (o_assign (v := (.bool false)) rfl ?_)
  refine s_nil ?_
  refine t_norm (hK1 _ _ ?_)
  refine wp_seq_k fun K2 hK2 => ?_
  refine c_region ?_
  refine s_op (o_assign (v := (.slice none 0 0)) rfl ?_)
  refine s_nil ?_
  refine t_norm (hK2 _ _ ?_)
  refine wp_seq_k fun K3 hK3 => ?_
  refine wp_seq_k fun K4 hK4 => ?_
  refine c_region ?_
  refine s_op (o_assign (v := (.int .i64 0)) rfl ?_)
  refine s_nil ?_
  refine t_norm (hK4 _ _ ?_)
  refine wp_block ?_
  let I6 : Nat → (Nat → Value) → World → Prop := fun n__ r__ w__ => ∃ (k : Nat) (vb : Value) (hs : List Hp) (lb : List UInt8), n__ = m - k ∧ Has E w__ [hs, R] ∧ (k ≤ m) ∧ (Own 5 1 vb lb.length (lb.map bV) hs) ∧ (lb = List.replicate k 0) ∧ (lb.length = k) ∧ r__ 0 = (.int .i64 (m : Int)) ∧ r__ 1 = (.int .i64 n) ∧ r__ 4 = (S ([] : List UInt8)) ∧ r__ 5 = (.bool false) ∧ r__ 6 = vb ∧ r__ 7 = (.int .i64 (k : Int))
  have hH7 : Has E w [[], R] := ((Has.nil (hH.front 0 rfl)).front 0 rfl).first 2 rfl
  refine c_loop I6 _ ⟨0, (.slice none 0 0), [], [], rfl, hH7, Nat.zero_le _, Own.nil 5 1, rfl, rfl, rfl, rfl, rfl, rfl, rfl, rfl⟩ ?_
  rintro n_ r10 w8 ⟨k, vb, hs, lb, rfl, hH9, hk, hob, hlb, hll, e5_0, e5_1, e5_4, e5_5, e5_6, e5_7⟩
  refine wp_seq_k fun K11 hK11 => ?_
  refine wp_seq_k fun K12 hK12 => ?_
  refine c_region ?_
  refine s_op (o_move (v := (.int .i64 (k : Int))) e5_7 ?_)
  refine s_op (o_move (v := (.int .i64 (m : Int))) e5_0 ?_)
  refine s_op (o_lss (a := (k : Int)) (b := (m : Int)) rfl rfl ?_)
  refine s_nil ?_
  refine t_norm (hK12 _ _ ?_)
  refine c_cond rfl (fun h13 => ?_) (fun h13 => ?_)
  · -- (k : Int) < (m : Int)
    refine wp_skip ?_
    refine t_norm (hK11 _ _ ?_)
    refine wp_seq_k fun K14 hK14 => ?_
    refine wp_block ?_
    refine c_region ?_
    refine s_op (o_move (v := vb) e5_6 ?_)
    refine s_op (o_buildSlice (ps := #[(0, (.int .u8 0))]) (cells := #[(.int .u8 0)]) Try.underlying78 ti5 (by decide) (parts1 rfl) (by kernel_rfl) hH9 fun b15 w16 hH17 => ?_)
    refine s_op (o_append Try.underlying78 ti5 rfl (by decide) rfl hob rfl (sl_lit (f := bV) (l := [(0 : UInt8)]) rfl rfl (by simp)) (hH17.front 1 rfl) (seg_sub 0 rfl) (one_bV _) (by simp; omega) (by simp; omega) fun v18 s19 w21 ho20 hH22 => ?_)
    have ho20 : Own 5 1 v18 (lb ++ [(0 : UInt8)]).length ((lb ++ [(0 : UInt8)]).map bV) s19 := ho20.app
    refine s_op (o_assign (v := v18) rfl ?_)
    refine s_nil ?_
    refine b_norm ?_
    refine t_norm (hK14 _ _ ?_)
    refine c_region ?_
    refine s_op (o_move (v := (.int .i64 (k : Int))) e5_7 ?_)
    refine s_op (o_add (a := (k : Int)) (b := 1) rfl rfl (w64 (by omega) (by omega)) ?_)
    refine s_op (o_assign (v := (.int .i64 ((k : Int) + 1))) rfl ?_)
    refine s_nil ?_
    have hH23 : Has E w21 [s19, R] := ((hH22.front 2 rfl).front 1 rfl).first 2 rfl
    refine t_norm ⟨m - (k + 1), _, rfl, ?_, ?_⟩
    · omega
    · exact ⟨(k + 1), v18, s19, (lb ++ [(0 : UInt8)]), rfl, hH23, (by omega), (ho20), (by rw [hlb, List.replicate_succ']), (by simp; omega), e5_0, e5_1, e5_4, e5_5, rfl, rfl⟩
  · -- not: (k : Int) < (m : Int)
    refine wp_exit ?_
    refine t_exit (t_exit (x_in (?_)))
    refine t_norm (hK3 _ _ ?_)
    refine wp_seq_k fun K24 hK24 => ?_
    refine wp_seq_k fun K25 hK25 => ?_
    refine c_region ?_
    refine s_op (o_move (v := (.int .i64 (m : Int))) e5_0 ?_)
    refine s_op (o_sub (a := (m : Int)) (b := 1) rfl rfl (w64 (by omega) (by omega)) ?_)
    refine s_op (o_assign (v := (.int .i64 ((m : Int) - 1))) rfl ?_)
    refine s_nil ?_
    refine t_norm (hK25 _ _ ?_)
    refine wp_block ?_
    let I27 : Nat → (Nat → Value) → World → Prop := fun n__ r__ w__ => ∃ (j : Nat) (i : Int) (y : Int) (hs2 : List Hp) (lc : List UInt8), n__ = j + 1 ∧ Has E w__ [hs2, R] ∧ (j ≤ m) ∧ (i = (j : Int) - 1) ∧ (Own 5 1 vb lc.length (lc.map bV) hs2) ∧ (lc = List.replicate j 0 ++ beFrom n (m - j)) ∧ (0 ≤ n → y = n / ((256 ^ (m - j) : Nat) : Int)) ∧ (n < 0 → j = m ∧ y = n) ∧ (lc.length = m) ∧ (-9223372036854775808 ≤ y ∧ y ≤ 9223372036854775807) ∧ r__ 0 = (.int .i64 (m : Int)) ∧ r__ 1 = (.int .i64 y) ∧ r__ 4 = (S ([] : List UInt8)) ∧ r__ 5 = (.bool false) ∧ r__ 6 = vb ∧ r__ 7 = (.int .i64 (k : Int)) ∧ r__ 8 = (.int .i64 i) ∧ r__ 11 = (.bool (decide ((k : Int) < (m : Int))))
    refine c_loop I27 _ ⟨m, ((m : Int) - 1), n, hs, lb, rfl, hH9, Nat.le_refl _, rfl, hob, (by rw [hlb, show k = m from by omega, Nat.sub_self]; simp [beFrom]), (by intro _; rw [Nat.sub_self]; simp), fun _ => ⟨rfl, rfl⟩, (by omega), hn, e5_0, e5_1, e5_4, e5_5, e5_6, e5_7, rfl, rfl⟩ ?_
    rintro n_ r30 w28 ⟨j, i, y, hs2, lc, rfl, hH29, hj, hi, hoc, hlc, hy, hneg, hlen, hyr, e26_0, e26_1, e26_4, e26_5, e26_6, e26_7, e26_8, e26_11⟩
    refine wp_seq_k fun K31 hK31 => ?_
    refine wp_seq_k fun K32 hK32 => ?_
    refine c_region ?_
    refine s_op (o_move (v := (.int .i64 i)) e26_8 ?_)
    refine s_op (o_geq (a := i) (b := 0) rfl rfl ?_)
    refine s_op (o_move (v := (.bool (decide (0 ≤ i)))) rfl ?_)
    by_cases h33 : 0 ≤ i
    · -- 0 ≤ i
      refine s_on 21 rfl (congrArg Value.bool (decide_eq_true h33)) (o_move (v := (.int .i64 y)) e26_1 ?_)
      refine s_on 21 rfl (congrArg Value.bool (decide_eq_true h33)) (o_gtr (a := y) (b := 0) rfl rfl ?_)
      refine s_op (o_pick_t (u := (.bool (decide (0 < y)))) ((rfl : _ = _).trans (congrArg Value.bool (decide_eq_true h33))) rfl ?_)
      refine s_nil ?_
      refine t_norm (hK32 _ _ ?_)
      refine c_cond rfl (fun h34 => ?_) (fun h34 => ?_)
      · -- 0 < y
        refine wp_skip ?_
        refine t_norm (hK31 _ _ ?_)
        refine wp_seq_k fun K35 hK35 => ?_
        refine wp_block ?_
        refine wp_seq_k fun K36 hK36 => ?_
        refine c_region ?_
        refine s_op (o_move (v := vb) e26_6 ?_)
        refine s_op (o_move (v := (.int .i64 i)) e26_8 ?_)
        refine s_op (o_move (v := (.int .i64 y)) e26_1 ?_)
        refine s_op (o_rem (a := y) (b := 256) (c := y % 256) rfl rfl (by omega) ((Int.tmod_eq_emod_of_nonneg (by omega))) ?_)
        refine s_op (o_conv (c := ((by8 (y % 256)).toNat : Int)) Try.underlying3 Try.underlying5 rfl (wrap_by8 _) ?_)
        refine s_op (o_ownAddr Try.underlying78 ti5 rfl hoc rfl (by omega) (by omega) fun b37 ho38 => ?_)
        refine s_eff (o_ownStore (f := bV) (l := lc) (a := (by8 (y % 256))) ti5 rfl rfl rfl ho38 (by omega) hH29 fun s39 w40 ho41 hH42 => ?_)
        refine s_nil ?_
        refine t_norm (hK36 _ _ ?_)
        refine c_region ?_
        refine s_op (o_move (v := (.int .i64 y)) e26_1 ?_)
        refine s_op (o_quo (a := y) (b := 256) (c := y / 256) rfl rfl (by omega) (by rw [(Int.tdiv_eq_ediv_of_nonneg (by omega))]; exact w64 (by omega) (by omega)) ?_)
        refine s_op (o_assign (v := (.int .i64 (y / 256))) rfl ?_)
        refine s_nil ?_
        refine b_norm ?_
        refine t_norm (hK35 _ _ ?_)
        refine c_region ?_
        refine s_op (o_move (v := (.int .i64 i)) e26_8 ?_)
        refine s_op (o_sub (a := i) (b := 1) rfl rfl (w64 (by omega) (by omega)) ?_)
        refine s_op (o_assign (v := (.int .i64 (i - 1))) rfl ?_)
        refine s_nil ?_
        refine t_norm ⟨(j - 1) + 1, _, rfl, ?_, ?_⟩
        · omega
        · exact ⟨(j - 1), (i - 1), (y / 256), s39, (lc.set ((i).toNat) (by8 (y % 256))), rfl, hH42, (by omega), (by omega), (ho41), (refput_set hlc (by omega) (by omega) hi hy (by omega)), (refput_div hy (by omega) (by omega)), (by omega), (by simp; omega), (by omega), e26_0, rfl, e26_4, e26_5, e26_6, e26_7, rfl, e26_11⟩
      · -- not: 0 < y
        refine wp_exit ?_
        refine t_exit (t_exit (x_in (?_)))
        refine t_norm (hK24 _ _ ?_)
        refine wp_seq_k fun K43 hK43 => ?_
        refine c_region ?_
        refine s_op (o_move (v := vb) e26_6 ?_)
        refine s_op (o_bstr Try.underlying78 Try.underlying5 Try.underlying9 rfl hoc.sl hH29 (seg_sub 0 rfl) ?_)
        refine s_op (o_move (v := (.int .i64 y)) e26_1 ?_)
        refine s_op (o_eql (a := y) (b := 0) rfl rfl ?_)
        refine s_op (o_assign (v := (S lc)) rfl ?_)
        refine s_op (o_assign (v := (.bool (decide (y = 0)))) rfl ?_)
        refine s_nil ?_
        refine t_norm (hK43 _ _ ?_)
        refine wp_ret ?_
        refine c_ret2 Try.results28 (v := (S lc)) rfl (x := (.bool (decide (y = 0)))) rfl ?_
        have hH44 : Has E w28 [R] := (hH29.front 1 rfl).first 1 rfl
        exact ⟨lc, by rw [show decide (y = 0) = fitsS n m from refput_ok hm hn hj hy hneg (by omega)], hlen, refput_be hm hn hj hlc hy hneg (by omega), hH44⟩
    · -- not: 0 ≤ i
      refine s_off (b' := false) 21 rfl (congrArg Value.bool (decide_eq_false h33)) rfl ?_
      refine s_off (b' := false) 21 rfl (congrArg Value.bool (decide_eq_false h33)) rfl ?_
      refine s_op (o_pick_f (u := (.bool false)) ((rfl : _ = _).trans (congrArg Value.bool (decide_eq_false h33))) rfl ?_)
      refine s_nil ?_
      refine t_norm (hK32 _ _ ?_)
      refine c_false rfl rfl ?_
      refine wp_exit ?_
      refine t_exit (t_exit (x_in (?_)))
      refine t_norm (hK24 _ _ ?_)
      refine wp_seq_k fun K45 hK45 => ?_
      refine c_region ?_
      refine s_op (o_move (v := vb) e26_6 ?_)
      refine s_op (o_bstr Try.underlying78 Try.underlying5 Try.underlying9 rfl hoc.sl hH29 (seg_sub 0 rfl) ?_)
      refine s_op (o_move (v := (.int .i64 y)) e26_1 ?_)
      refine s_op (o_eql (a := y) (b := 0) rfl rfl ?_)
      refine s_op (o_assign (v := (S lc)) rfl ?_)
      refine s_op (o_assign (v := (.bool (decide (y = 0)))) rfl ?_)
      refine s_nil ?_
      refine t_norm (hK45 _ _ ?_)
      refine wp_ret ?_
      refine c_ret2 Try.results28 (v := (S lc)) rfl (x := (.bool (decide (y = 0)))) rfl ?_
      have hH46 : Has E w28 [R] := (hH29.front 1 rfl).first 1 rfl
      exact ⟨lc, by rw [show decide (y = 0) = fitsS n m from refput_ok hm hn hj hy hneg (by omega)], hlen, refput_be hm hn hj hlc hy hneg (by omega), hH46⟩
end Go.Q
