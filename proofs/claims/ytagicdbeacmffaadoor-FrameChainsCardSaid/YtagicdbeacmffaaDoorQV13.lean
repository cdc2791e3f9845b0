/-
  Parts of a walk: what functions of the program compute, each told by a theorem.
-/
import Derived.Test.YtagicdbeacmffaaDoorQV11
set_option linter.unusedVariables false
set_option linter.unusedSimpArgs false
namespace Go.Q
open Go.Proofs
set_option linter.unusedVariables false
set_option maxRecDepth 100000
attribute [local irreducible] wpList OK Code.wp
set_option maxHeartbeats 4000000 in
theorem refchain_c {E w : World} {R : List Hp} (hH : Has E w [R]) (t : List UInt8) (htl : t.length ≤ 1000000) (re rc pl ab : Int) (hpl0 : -4000000000000 ≤ pl ∧ pl ≤ 4000000000000) :
    Calls Tryd.prog 29 #[(.int .i64 re), (.int .i64 rc), (S t), (.int .i64 pl), (.int .i64 ab)] w fun e w' => ∃ v' hs', e = .returned (.tuple #[v', .int .i64 (chainS re rc (t.length + 1) t pl ab).2]) ∧ Own 43 4 v' (chainS re rc (t.length + 1) t pl ab).1.length ((chainS re rc (t.length + 1) t pl ab).1.flatMap frC) hs' ∧ Has E w' [hs', R] := by
  refine c_enter (args := [(.int .i64 re), (.int .i64 rc), (S t), (.int .i64 pl), (.int .i64 ab)]) Tryd.func29 rfl Tryd.ntmps29 (by simp) ?_
  refine wp_seq_k fun K1 hK1 => ?_
  refine c_region ?_
  refine s_op (o_assign (v := (.slice none 0 0)) rfl ?_)
  refine s_op (o_assign (v := (.int .i64 0)) rfl ?_)
  refine s_nil ?_
  refine t_norm (hK1 _ _ ?_)
  refine wp_seq_k fun K2 hK2 => ?_
  refine c_region ?_
  refine s_op (o_assign (v := (.slice none 0 0)) rfl ?_)
  refine s_nil ?_
  refine t_norm (hK2 _ _ ?_)
  refine wp_block ?_
  let I4 : Nat → (Nat → Value) → World → Prop := fun n__ r__ w__ => ∃ (n : Nat) (cur : List UInt8) (pl2 : Int) (ab2 : Int) (va : Value) (ha : List Hp) (acc : List Fr), n__ = n + 1 ∧ Has E w__ [ha, R] ∧ (cur.length < n) ∧ (Own 43 4 va acc.length (acc.flatMap frC) ha) ∧ (pl2 + (cur.length : Int) = pl + (t.length : Int)) ∧ (25 * acc.length + cur.length ≤ t.length) ∧ ((chainS re rc (t.length + 1) t pl ab) = (acc ++ (chainS re rc n cur pl2 ab2).1, (chainS re rc n cur pl2 ab2).2)) ∧ r__ 0 = (.int .i64 re) ∧ r__ 1 = (.int .i64 rc) ∧ r__ 2 = (S cur) ∧ r__ 3 = (.int .i64 pl2) ∧ r__ 4 = (.int .i64 ab2) ∧ r__ 12 = va
  have hH5 : Has E w [[], R] := (Has.nil hH).first 2 rfl
  refine c_loop I4 _ ⟨(t.length + 1), t, pl, ab, (.slice none 0 0), [], [], rfl, hH5, (by omega), Own.nil 43 4, rfl, (by simp), (by simp), rfl, rfl, rfl, rfl, rfl, rfl⟩ ?_
  rintro n_ r8 w6 ⟨n, cur, pl2, ab2, va, ha, acc, rfl, hH7, hn, hoa, hpl, hal, hch, e3_0, e3_1, e3_2, e3_3, e3_4, e3_12⟩
  refine wp_block ?_
  refine wp_seq_k fun K9 hK9 => ?_
  refine c_region ?_
  refine s_op (o_move (v := (S cur)) e3_2 ?_)
  refine s_op (o_callf (vs := #[(S cur)]) ca25 rfl (args1 rfl) (fref_c hH7.all cur (by omega)) ?_)
  rintro _ w12 ⟨rfl, hX10⟩
  refine ⟨_, rfl, ?_⟩
  have hH11 := hX10.of_all
  refine s_op (o_move (v := (.tuple #[(.agg #[(.int .i64 ((oF cur).ep)), (.int .i64 ((oF cur).pl)), (.int .i64 ((oF cur).gsn)), (S ((oF cur).data))]), (.bool (opensB cur))])) rfl ?_)
  refine s_op (o_extract (v := (.agg #[(.int .i64 ((oF cur).ep)), (.int .i64 ((oF cur).pl)), (.int .i64 ((oF cur).gsn)), (S ((oF cur).data))])) rfl rfl ?_)
  refine s_op (o_extract (v := (.bool (opensB cur))) rfl rfl ?_)
  refine s_op (o_alloc (cs := #[(.int .i64 0), (.int .i64 0), (.int .i64 0), (S ([] : List UInt8))]) ti43 rfl hH11 fun b13 w14 hH15 => ?_)
  refine s_eff (o_storeN (vs := [(.int .i64 ((oF cur).ep)), (.int .i64 ((oF cur).pl)), (.int .i64 ((oF cur).gsn)), (S ((oF cur).data))]) (c' := #[(.int .i64 ((oF cur).ep)), (.int .i64 ((oF cur).pl)), (.int .i64 ((oF cur).gsn)), (S ((oF cur).data))]) ti43 rfl rfl rfl rfl (by intro u hu; simp only [List.mem_cons, List.not_mem_nil, or_false] at hu; rcases hu with rfl | rfl | rfl | rfl <;> first | rfl) (by simp) (by kernel_rfl) (hH15.front 0 rfl) fun w16 hH17 => ?_)
  refine s_op (o_assign (v := (.bool (opensB cur))) rfl ?_)
  refine s_nil ?_
  refine t_norm (hK9 _ _ ?_)
  refine wp_seq_k fun K18 hK18 => ?_
  refine wp_seq_k fun K19 hK19 => ?_
  refine c_region ?_
  refine s_op (o_move (v := (.bool (opensB cur))) rfl ?_)
  refine s_op (o_not rfl ?_)
  refine s_op (o_move (v := (.bool (!(opensB cur)))) rfl ?_)
  rcases Bool.eq_false_or_eq_true (!(opensB cur)) with h20 | h20
  · -- !(opensB cur)
    refine s_off (b' := true) 23 rfl (congrArg Value.bool h20) rfl ?_
    refine s_off (b' := true) 23 rfl (congrArg Value.bool h20) rfl ?_
    refine s_off (b' := true) 23 rfl (congrArg Value.bool h20) rfl ?_
    refine s_off (b' := true) 23 rfl (congrArg Value.bool h20) rfl ?_
    refine s_off (b' := true) 23 rfl (congrArg Value.bool h20) rfl ?_
    refine s_off (b' := true) 23 rfl (congrArg Value.bool h20) rfl ?_
    refine s_off (b' := true) 23 rfl (congrArg Value.bool h20) rfl ?_
    refine s_op (o_pick_t (u := (.bool true)) ((rfl : _ = _).trans (congrArg Value.bool h20)) rfl ?_)
    refine s_nil ?_
    refine t_norm (hK19 _ _ ?_)
    refine c_true rfl rfl ?_
    refine wp_seq_k fun K21 hK21 => ?_
    refine c_region ?_
    refine s_op (o_move (v := va) e3_12 ?_)
    refine s_op (o_move (v := (.int .i64 pl2)) e3_3 ?_)
    refine s_op (o_assign (v := va) rfl ?_)
    refine s_op (o_assign (v := (.int .i64 pl2)) rfl ?_)
    refine s_nil ?_
    refine t_norm (hK21 _ _ ?_)
    refine wp_ret ?_
    refine t_ret (b_ret (t_ret (b_ret (c_ret2 Tryd.results29  (v := va) rfl (x := (.int .i64 pl2)) rfl ?_))))
    have hH22 : Has E w16 [ha, R] := ((hH17.front 2 rfl).front 2 rfl).first 2 rfl
    have he := chain_end (.inl (not_t h20)) hch
    exact ⟨_, _, by rw [he], by rw [he]; exact hoa, hH22⟩
  · -- not: !(opensB cur)
    have hle := oN_le (not_f h20)
    have hny := oN_yes (not_f h20)
    refine s_on 23 rfl (congrArg Value.bool h20) (o_move (v := (.int .i64 re)) e3_0 ?_)
    refine s_on 23 rfl (congrArg Value.bool h20) (o_move (v := (.int .i64 rc)) e3_1 ?_)
    refine s_on 23 rfl (congrArg Value.bool h20) (o_loadN (cs := [(.int .i64 ((oF cur).ep)), (.int .i64 ((oF cur).pl)), (.int .i64 ((oF cur).gsn)), (S ((oF cur).data))]) Tryd.underlying43 rfl ti43 rfl hH17 (seg_sub 0 rfl) (CellsAt.one rfl) ?_)
    refine s_on 23 rfl (congrArg Value.bool h20) (o_move (v := (.int .i64 pl2)) e3_3 ?_)
    refine s_on 23 rfl (congrArg Value.bool h20) (o_move (v := (.int .i64 ab2)) e3_4 ?_)
    refine s_on 23 rfl (congrArg Value.bool h20) (o_callf (vs := #[(.int .i64 re), (.int .i64 rc), (.agg #[(.int .i64 ((oF cur).ep)), (.int .i64 ((oF cur).pl)), (.int .i64 ((oF cur).gsn)), (S ((oF cur).data))]), (.int .i64 pl2), (.int .i64 ab2)]) ca33 rfl (args5 rfl rfl rfl rfl rfl) (reffits_c hH17.all (oF cur) (Nat.le_trans (oF_le cur) (by omega)) re rc pl2 ab2) ?_)
    rintro _ w25 ⟨rfl, hX23⟩
    refine ⟨_, rfl, ?_⟩
    have hH24 := hX23.of_all
    refine s_on 23 rfl (congrArg Value.bool h20) (o_not rfl ?_)
    refine s_op (o_pick_f (u := (.bool (!(fitsF re rc pl2 ab2 (oF cur))))) ((rfl : _ = _).trans (congrArg Value.bool h20)) rfl ?_)
    refine s_nil ?_
    refine t_norm (hK19 _ _ ?_)
    refine c_condb rfl (fun h26 => ?_) (fun h26 => ?_)
    · -- !(fitsF re rc pl2 ab2 (oF cur))
      refine wp_seq_k fun K27 hK27 => ?_
      refine c_region ?_
      refine s_op (o_move (v := va) e3_12 ?_)
      refine s_op (o_move (v := (.int .i64 pl2)) e3_3 ?_)
      refine s_op (o_assign (v := va) rfl ?_)
      refine s_op (o_assign (v := (.int .i64 pl2)) rfl ?_)
      refine s_nil ?_
      refine t_norm (hK27 _ _ ?_)
      refine wp_ret ?_
      refine t_ret (b_ret (t_ret (b_ret (c_ret2 Tryd.results29  (v := va) rfl (x := (.int .i64 pl2)) rfl ?_))))
      have hH28 : Has E w25 [ha, R] := ((hH24.front 2 rfl).front 2 rfl).first 2 rfl
      have he := chain_end (.inr (not_t h26)) hch
      exact ⟨_, _, by rw [he], by rw [he]; exact hoa, hH28⟩
    · -- not: !(fitsF re rc pl2 ab2 (oF cur))
      refine wp_skip ?_
      refine t_norm (hK18 _ _ ?_)
      refine wp_seq_k fun K29 hK29 => ?_
      refine c_region ?_
      refine s_op (o_move (v := va) e3_12 ?_)
      refine s_op (o_loadN (cs := [(.int .i64 ((oF cur).ep)), (.int .i64 ((oF cur).pl)), (.int .i64 ((oF cur).gsn)), (S ((oF cur).data))]) Tryd.underlying43 rfl ti43 rfl hH24 (seg_sub 0 rfl) (CellsAt.one rfl) ?_)
      refine s_op (o_buildSlice (ps := #[(0, (.agg #[(.int .i64 ((oF cur).ep)), (.int .i64 ((oF cur).pl)), (.int .i64 ((oF cur).gsn)), (S ((oF cur).data))]))]) (cells := #[(.int .i64 ((oF cur).ep)), (.int .i64 ((oF cur).pl)), (.int .i64 ((oF cur).gsn)), (S ((oF cur).data))]) Tryd.underlying55 ti43 (by decide) (parts1 rfl) (by kernel_rfl) hH24 fun b30 w31 hH32 => ?_)
      refine s_op (o_append Tryd.underlying55 ti43 rfl (by decide) rfl hoa rfl (sl_litF (f := frC) (l := [(oF cur)]) frC_len rfl rfl (by simp)) (hH32.front 2 rfl) (seg_sub 0 rfl) (one_fr _) (by simp; omega) (by simp; omega) fun v33 s34 w36 ho35 hH37 => ?_)
      have ho35 : Own 43 4 v33 (acc ++ [(oF cur)]).length ((acc ++ [(oF cur)]).flatMap frC) s34 := ho35.appF
      refine s_op (o_assign (v := v33) rfl ?_)
      refine s_nil ?_
      refine t_norm (hK29 _ _ ?_)
      refine wp_seq_k fun K38 hK38 => ?_
      refine c_region ?_
      refine s_op (o_fieldAddr (k := 3) (fun _ => by kernel_rfl) rfl ?_)
      refine s_op (o_load1 (v := (S ((oF cur).data))) Tryd.underlying9 rfl rfl hH37 (seg_sub 2 rfl) (CellsAt.one rfl) ?_)
      refine s_op (o_slen Tryd.underlying9 rfl ?_)
      refine s_op (o_add (a := 25) (b := (((oF cur).data).length : Int)) rfl rfl (w64 (by omega) (by omega)) ?_)
      refine s_op (o_assign (v := (.int .i64 (25 + (((oF cur).data).length : Int)))) rfl ?_)
      refine s_nil ?_
      refine t_norm (hK38 _ _ ?_)
      refine wp_seq_k fun K39 hK39 => ?_
      refine c_region ?_
      refine s_op (o_move (v := (S cur)) e3_2 ?_)
      refine s_op (o_move (v := (.int .i64 (25 + (((oF cur).data).length : Int)))) rfl ?_)
      refine s_op (o_ssl_l Tryd.underlying9 rfl rfl (by omega) (by omega) ?_)
      refine s_op (o_assign (v := (S (cur.drop (25 + (((oF cur).data).length : Int)).toNat))) rfl ?_)
      refine s_nil ?_
      refine t_norm (hK39 _ _ ?_)
      refine wp_seq_k fun K40 hK40 => ?_
      refine c_region ?_
      refine s_op (o_move (v := (.int .i64 pl2)) e3_3 ?_)
      refine s_op (o_move (v := (.int .i64 (25 + (((oF cur).data).length : Int)))) rfl ?_)
      refine s_op (o_add (a := pl2) (b := 25 + (((oF cur).data).length : Int)) rfl rfl (w64 (by omega) (by omega)) ?_)
      refine s_op (o_assign (v := (.int .i64 (pl2 + (25 + (((oF cur).data).length : Int))))) rfl ?_)
      refine s_nil ?_
      refine t_norm (hK40 _ _ ?_)
      refine c_region ?_
      refine s_op (o_fieldAddr (k := 2) (fun _ => by kernel_rfl) rfl ?_)
      refine s_op (o_load1 (v := (.int .i64 ((oF cur).gsn))) Tryd.underlying3 rfl rfl hH37 (seg_sub 2 rfl) (CellsAt.one rfl) ?_)
      refine s_op (o_assign (v := (.int .i64 ((oF cur).gsn))) rfl ?_)
      refine s_nil ?_
      refine b_norm ?_
      have hH41 : Has E w36 [s34, R] := ((hH37.front 3 rfl).front 1 rfl).first 2 rfl
      refine t_norm ⟨(n - 1) + 1, _, rfl, ?_, ?_⟩
      · omega
      · exact ⟨(n - 1), (cur.drop (25 + (((oF cur).data).length : Int)).toNat), (pl2 + (25 + (((oF cur).data).length : Int))), ((oF cur).gsn), v33, s34, (acc ++ [(oF cur)]), rfl, hH41, (by simp only [List.length_drop]; omega), (ho35), (by simp only [List.length_drop]; omega), (by simp only [List.length_append, List.length_cons, List.length_nil, List.length_drop]; omega), (by rw [← hny]; exact chain_step (by omega) (not_f h20) (not_f h26) hch), e3_0, e3_1, rfl, rfl, rfl, rfl⟩
end Go.Q
