/-
  Parts of a walk: what functions of the program compute, each told by a theorem.
-/
import Derived.Test.YtlaieipebmkebaaQP6
set_option linter.unusedVariables false
set_option linter.unusedSimpArgs false
namespace Go.Q
open Go.Proofs
set_option linter.unusedVariables false
set_option maxRecDepth 100000
attribute [local irreducible] wpList OK Code.wp
set_option maxHeartbeats 4000000 in
theorem next_c {E w : World} {R : List Hp} (hH : Has E w [R]) {v : Value} {l : List (Int × Int)} (hv : Sl R 2 v l.length (l.flatMap tmC)) (hl : l.length ≤ 1000) {vf : Value} {fr : List Int} (hf : Ints R vf fr) :
    Calls Try.prog 10 #[v, vf] w fun e w' => ∃ v' hs', e = .returned v' ∧ Own 3 1 v' (nextS l fr).length ((nextS l fr).map iV) hs' ∧ Has E w' [hs', R] := by
  have hn_ := hv.le
  have hnf := hf.le
  refine c_enter (args := [v, vf]) Try.func10 rfl Try.ntmps10 (by simp) ?_
  refine wp_seq_k fun K1 hK1 => ?_
  refine c_region ?_
  refine s_op (o_assign (v := (.slice none 0 0)) rfl ?_)
  refine s_nil ?_
  refine t_norm (hK1 _ _ ?_)
  refine wp_seq_k fun K2 hK2 => ?_
  refine c_region ?_
  refine s_op (o_alloc (cs := #[(.slice none 0 0)]) ti45 rfl hH fun b3 w4 hH5 => ?_)
  refine s_nil ?_
  refine t_norm (hK2 _ _ ?_)
  refine wp_seq_k fun K6 hK6 => ?_
  refine wp_seq_k fun K7 hK7 => ?_
  refine c_region ?_
  refine s_op (o_move (v := v) rfl ?_)
  refine s_op (o_lenS Try.underlying22 rfl hv ?_)
  refine s_op (o_move (v := (.int .i64 0)) rfl ?_)
  refine s_nil ?_
  refine t_norm (hK7 _ _ ?_)
  refine wp_block ?_
  let I9 : Nat → (Nat → Value) → World → Prop := fun n__ r__ w__ => ∃ (k : Nat) (va : Value) (ha : List Hp) (cur : List Int), n__ = l.length - k ∧ Has E w__ [ha, [Hp.one b3 (.cells #[va] 45 (0, 0))], R] ∧ (k ≤ l.length) ∧ (Own 3 1 va cur.length (cur.map iV) ha) ∧ (cur = nextS (l.take k) fr) ∧ (cur.length ≤ k) ∧ r__ 0 = v ∧ r__ 1 = vf ∧ r__ 4 = (.slice none 0 0) ∧ r__ 5 = (.pointer (some ⟨b3, 0, none⟩)) ∧ r__ 8 = v ∧ r__ 9 = (.int .i64 ((l.length : Nat) : Int)) ∧ r__ 10 = (.int .i64 (k : Int))
  have hH10 : Has E w4 [[], [Hp.one b3 (.cells #[(.slice none 0 0)] 45 (0, 0))], R] := (Has.nil ((hH5.front 1 rfl).front 1 rfl)).first 3 rfl
  refine c_loop I9 _ ⟨0, (.slice none 0 0), [], [], rfl, hH10, Nat.zero_le _, Own.nil 3 1, rfl, Nat.le_refl _, rfl, rfl, rfl, rfl, rfl, rfl, rfl⟩ ?_
  rintro n_ r13 w11 ⟨k, va, ha, cur, rfl, hH12, hk, hoa, hcur, hcl, e8_0, e8_1, e8_4, e8_5, e8_8, e8_9, e8_10⟩
  have hsc : cur.Pairwise (· < ·) := hcur ▸ nextS_sorted _ _
  refine wp_seq_k fun K14 hK14 => ?_
  refine c_region ?_
  refine s_op (o_lss (a := (k : Int)) (b := ((l.length : Nat) : Int)) e8_10 e8_9 ?_)
  refine s_nil ?_
  refine t_norm (hK14 _ _ ?_)
  refine wp_seq_k fun K15 hK15 => ?_
  refine c_cond rfl (fun h16 => ?_) (fun h16 => ?_)
  · -- (k : Int) < ((l.length : Nat) : Int)
    refine wp_skip ?_
    refine t_norm (hK15 _ _ ?_)
    refine wp_seq_k fun K17 hK17 => ?_
    refine wp_block ?_
    refine wp_seq_k fun K18 hK18 => ?_
    refine c_region ?_
    obtain ⟨x22, hx23⟩ : ∃ x_, l[((k : Int)).toNat]? = some x_ := get_some (by omega)
    refine s_op (o_indexF tmC_len Try.underlying22 ti42 e8_8 hv rfl e8_10 (by omega) hx23 fun b19 o20 hc21 => ?_)
    refine s_op (o_loadN (cs := [(.int .i64 x22.1), (.int .i64 x22.2)]) Try.underlying42 rfl ti42 rfl hH12 (seg_sub 2 rfl) hc21 ?_)
    refine s_op (o_alloc (cs := #[(.int .i64 0), (.int .i64 0)]) ti42 rfl hH12 fun b24 w25 hH26 => ?_)
    refine s_eff (o_storeN (vs := [(.int .i64 x22.1), (.int .i64 x22.2)]) (c' := #[(.int .i64 x22.1), (.int .i64 x22.2)]) ti42 rfl rfl rfl rfl (by intro u hu; simp only [List.mem_cons, List.not_mem_nil, or_false] at hu; rcases hu with rfl | rfl <;> first | rfl) (by simp) (by kernel_rfl) (hH26.front 0 rfl) fun w27 hH28 => ?_)
    refine s_nil ?_
    refine t_norm (hK18 _ _ ?_)
    refine wp_seq_k fun K29 hK29 => ?_
    refine c_region ?_
    refine s_op (o_move (v := vf) e8_1 ?_)
    refine s_op (o_fieldAddr (k := 0) (fun _ => by kernel_rfl) rfl ?_)
    refine s_op (o_load1 (v := (.int .i64 x22.1)) Try.underlying3 rfl rfl hH28 (seg_sub 0 rfl) (CellsAt.one rfl) ?_)
    refine s_op (o_callf (vs := #[vf, (.int .i64 x22.1)]) ca21 rfl (args2 rfl rfl) (contains_c hH28.all (l := fr) (hf.mono (seg_sub 3 rfl)) x22.1) ?_)
    rintro _ w32 ⟨rfl, hX30⟩
    refine ⟨_, rfl, ?_⟩
    have hH31 := hX30.of_all
    refine s_nil ?_
    refine t_norm (hK29 _ _ ?_)
    refine c_cond rfl (fun h33 => ?_) (fun h33 => ?_)
    · -- x22.1 ∈ fr
      refine c_region ?_
      refine s_op (o_fieldAddr (k := 1) (fun _ => by kernel_rfl) rfl ?_)
      refine s_op (o_load1 (v := (.int .i64 x22.2)) Try.underlying3 rfl rfl hH31 (seg_sub 0 rfl) (CellsAt.one rfl) ?_)
      refine s_op (o_buildSlice (ps := #[(0, (.int .i64 x22.2))]) (cells := #[(.int .i64 x22.2)]) Try.underlying23 ti3 (by decide) (parts1 rfl) (by kernel_rfl) hH31 fun b34 w35 hH36 => ?_)
      refine s_op (o_callf (vs := #[(.pointer (some ⟨b3, 0, none⟩)), (.slice (some ⟨b34, 0, none⟩) 1 1)]) ca22 rfl (args2 e8_5 rfl) (add_c ((hH36.front 3 rfl).front 3 rfl).all2 hoa hsc ((sl_lit (f := iV) (l := [x22.2]) rfl rfl (by simp)).mono (seg_sub 0 rfl)) (by simp only [List.length_cons, List.length_nil]; omega)) ?_)
      rintro _ w46 ⟨v37, s38, now39, rfl, ho40, hso41, hm42, hX44⟩
      refine ⟨_, rfl, ?_⟩
      have hH45 : Has E w46 [s38, [Hp.one b3 (.cells #[v37] 45 (0, 0))], [Hp.one b34 (.cells #[(.int .i64 x22.2)] 3 (0, 0))], [Hp.one b24 (.cells #[(.int .i64 x22.1), (.int .i64 x22.2)] 42 (0, 0))], R] := hX44.of_all2
      obtain rfl := set_with hsc hso41 hm42
      refine s_nil ?_
      refine b_norm ?_
      refine t_norm (hK17 _ _ ?_)
      refine c_region ?_
      refine s_op (o_add (a := (k : Int)) (b := 1) e8_10 rfl (w64 (by omega) (by omega)) ?_)
      refine s_op (o_move (v := (.int .i64 ((k : Int) + 1))) rfl ?_)
      refine s_nil ?_
      have hH47 : Has E w46 [s38, [Hp.one b3 (.cells #[v37] 45 (0, 0))], R] := (((hH45.front 4 rfl).front 2 rfl).front 2 rfl).first 3 rfl
      refine t_norm ⟨l.length - (k + 1), _, rfl, ?_, ?_⟩
      · omega
      · exact ⟨(k + 1), v37, s38, (withS x22.2 false cur), rfl, hH47, (by omega), (ho40), (by rw [next_yes (show l[k]? = some _ from hx23) h33, ← hcur]), (by first | omega | (have := withS_le x22.2 false cur; simp only [Bool.false_eq_true, if_false] at this; omega)), e8_0, e8_1, e8_4, e8_5, e8_8, e8_9, rfl⟩
    · -- not: x22.1 ∈ fr
      refine wp_skip ?_
      refine b_norm ?_
      refine t_norm (hK17 _ _ ?_)
      refine c_region ?_
      refine s_op (o_add (a := (k : Int)) (b := 1) e8_10 rfl (w64 (by omega) (by omega)) ?_)
      refine s_op (o_move (v := (.int .i64 ((k : Int) + 1))) rfl ?_)
      refine s_nil ?_
      have hH48 : Has E w32 [ha, [Hp.one b3 (.cells #[va] 45 (0, 0))], R] := (((hH31.front 3 rfl).front 3 rfl).front 3 rfl).first 3 rfl
      refine t_norm ⟨l.length - (k + 1), _, rfl, ?_, ?_⟩
      · omega
      · exact ⟨(k + 1), va, ha, cur, rfl, hH48, (by omega), (hoa), (by rw [next_no (show l[k]? = some _ from hx23) h33, ← hcur]), (by first | omega | (have := withS_le x22.2 false cur; simp only [Bool.false_eq_true, if_false] at this; omega)), e8_0, e8_1, e8_4, e8_5, e8_8, e8_9, rfl⟩
  · -- not: (k : Int) < ((l.length : Nat) : Int)
    refine wp_exit ?_
    refine t_exit (t_exit (x_in (?_)))
    refine t_norm (hK6 _ _ ?_)
    refine wp_seq_k fun K49 hK49 => ?_
    refine c_region ?_
    refine s_op (o_callf (vs := #[(.pointer (some ⟨b3, 0, none⟩))]) ca23 rfl (args1 e8_5) (list_o ((hH12.front 1 rfl).front 1 rfl).all2 hoa hsc (by omega)) ?_)
    rintro _ w55 ⟨v50, s51, rfl, hv52, hX53⟩
    refine ⟨_, rfl, ?_⟩
    have hH54 : Has E w55 [s51, ha, [Hp.one b3 (.cells #[va] 45 (0, 0))], R] := hX53.of_all3
    refine s_op (o_assign (v := v50) rfl ?_)
    refine s_nil ?_
    refine t_norm (hK49 _ _ ?_)
    refine wp_ret ?_
    refine c_ret1 Try.results10  (v := v50) rfl ?_
    have hH56 : Has E w55 [s51, R] := ((hH54.front 3 rfl).front 1 rfl).first 2 rfl
    have e : k = l.length := by omega
    rw [e, List.take_of_length_le (Nat.le_refl _)] at hcur
    exact ⟨_, _, rfl, by rw [← hcur]; exact hv52, hH56⟩
set_option maxHeartbeats 4000000 in
theorem refnext_c {E w : World} {R : List Hp} (hH : Has E w [R]) {v : Value} {l : List (Int × Int)} (hv : Sl R 2 v l.length (l.flatMap tmC)) (hl : l.length ≤ 1000) {vf : Value} {fr : List Int} (hf : Ints R vf fr) :
    Calls Try.prog 11 #[v, vf] w fun e w' => ∃ v' hs', e = .returned v' ∧ Own 3 1 v' (nextS l fr).length ((nextS l fr).map iV) hs' ∧ Has E w' [hs', R] := by
  have hn_ := hv.le
  have hnf := hf.le
  refine c_enter (args := [v, vf]) Try.func11 rfl Try.ntmps11 (by simp) ?_
  refine wp_seq_k fun K1 hK1 => ?_
  refine c_region ?_
  refine s_op (o_assign (v := (.slice none 0 0)) rfl ?_)
  refine s_nil ?_
  refine t_norm (hK1 _ _ ?_)
  refine wp_seq_k fun K2 hK2 => ?_
  refine c_region ?_
  refine s_op (o_assign (v := (.slice none 0 0)) rfl ?_)
  refine s_nil ?_
  refine t_norm (hK2 _ _ ?_)
  refine wp_seq_k fun K3 hK3 => ?_
  refine wp_seq_k fun K4 hK4 => ?_
  refine c_region ?_
  refine s_op (o_assign (v := (.int .i64 0)) rfl ?_)
  refine s_nil ?_
  refine t_norm (hK4 _ _ ?_)
  refine wp_block ?_
  let I6 : Nat → (Nat → Value) → World → Prop := fun n__ r__ w__ => ∃ (k : Nat) (va : Value) (ha : List Hp) (cur : List Int), n__ = l.length - k ∧ Has E w__ [ha, R] ∧ (k ≤ l.length) ∧ (Own 3 1 va cur.length (cur.map iV) ha) ∧ (cur = nextS (l.take k) fr) ∧ (cur.length ≤ k) ∧ r__ 0 = v ∧ r__ 1 = vf ∧ r__ 4 = (.slice none 0 0) ∧ r__ 5 = va ∧ r__ 6 = (.int .i64 (k : Int))
  have hH7 : Has E w [[], R] := (Has.nil hH).first 2 rfl
  refine c_loop I6 _ ⟨0, (.slice none 0 0), [], [], rfl, hH7, Nat.zero_le _, Own.nil 3 1, rfl, Nat.le_refl _, rfl, rfl, rfl, rfl, rfl⟩ ?_
  rintro n_ r10 w8 ⟨k, va, ha, cur, rfl, hH9, hk, hoa, hcur, hcl, e5_0, e5_1, e5_4, e5_5, e5_6⟩
  refine wp_seq_k fun K11 hK11 => ?_
  refine wp_seq_k fun K12 hK12 => ?_
  refine c_region ?_
  refine s_op (o_move (v := (.int .i64 (k : Int))) e5_6 ?_)
  refine s_op (o_move (v := v) e5_0 ?_)
  refine s_op (o_lenS Try.underlying24 rfl hv ?_)
  refine s_op (o_lss (a := (k : Int)) (b := ((l.length : Nat) : Int)) rfl rfl ?_)
  refine s_nil ?_
  refine t_norm (hK12 _ _ ?_)
  refine c_cond rfl (fun h13 => ?_) (fun h13 => ?_)
  · -- (k : Int) < ((l.length : Nat) : Int)
    refine wp_skip ?_
    refine t_norm (hK11 _ _ ?_)
    refine wp_seq_k fun K14 hK14 => ?_
    refine wp_block ?_
    refine wp_seq_k fun K15 hK15 => ?_
    refine c_region ?_
    refine s_op (o_move (v := vf) e5_1 ?_)
    refine s_op (o_move (v := v) e5_0 ?_)
    refine s_op (o_move (v := (.int .i64 (k : Int))) e5_6 ?_)
    obtain ⟨x19, hx20⟩ : ∃ x_, l[((k : Int)).toNat]? = some x_ := get_some (by omega)
    refine s_op (o_indexF tmC_len Try.underlying24 ti34 rfl hv rfl rfl (by omega) hx20 fun b16 o17 hc18 => ?_)
    refine s_op (o_fieldAddr (k := o17) (fun _ => by kernel_rfl) rfl ?_)
    refine s_op (o_load1 (v := (.int .i64 x19.1)) Try.underlying3 rfl rfl hH9 (seg_sub 1 rfl) (CellsAt.field (k := 0) (ds := [(.int .i64 x19.1)]) hc18 rfl) ?_)
    refine s_op (o_callf (vs := #[vf, (.int .i64 x19.1)]) ca20 rfl (args2 rfl rfl) (refhas_c hH9.all (l := fr) (hf.mono (seg_sub 1 rfl)) x19.1) ?_)
    rintro _ w23 ⟨rfl, hX21⟩
    refine ⟨_, rfl, ?_⟩
    have hH22 := hX21.of_all
    refine s_nil ?_
    refine t_norm (hK15 _ _ ?_)
    refine c_cond rfl (fun h24 => ?_) (fun h24 => ?_)
    · -- x19.1 ∈ fr
      refine c_region ?_
      refine s_op (o_move (v := va) e5_5 ?_)
      refine s_op (o_move (v := v) e5_0 ?_)
      refine s_op (o_move (v := (.int .i64 (k : Int))) e5_6 ?_)
      refine s_op (o_indexF tmC_len Try.underlying24 ti34 rfl hv rfl rfl (by omega) hx20 fun b25 o26 hc27 => ?_)
      refine s_op (o_fieldAddr (k := o26 + 1) (fun _ => by kernel_rfl) rfl ?_)
      refine s_op (o_load1 (v := (.int .i64 x19.2)) Try.underlying3 rfl rfl hH22 (seg_sub 1 rfl) (CellsAt.field (k := 1) (ds := [(.int .i64 x19.2)]) hc27 rfl) ?_)
      refine s_op (o_callf (vs := #[va, (.int .i64 x19.2), (.bool true)]) ca15 rfl (args3 rfl rfl rfl) (with_c hH22.all (l := cur) (hoa.sl.mono (seg_sub 0 rfl)) (by omega) x19.2 true) ?_)
      rintro _ w33 ⟨v28, s29, rfl, ho30, hX31⟩
      refine ⟨_, rfl, ?_⟩
      have hH32 : Has E w33 [s29, ha, R] := hX31.of_all1
      refine s_op (o_assign (v := v28) rfl ?_)
      refine s_nil ?_
      refine b_norm ?_
      refine t_norm (hK14 _ _ ?_)
      refine c_region ?_
      refine s_op (o_move (v := (.int .i64 (k : Int))) e5_6 ?_)
      refine s_op (o_add (a := (k : Int)) (b := 1) rfl rfl (w64 (by omega) (by omega)) ?_)
      refine s_op (o_assign (v := (.int .i64 ((k : Int) + 1))) rfl ?_)
      refine s_nil ?_
      have hH34 : Has E w33 [s29, R] := ((hH32.front 2 rfl).front 1 rfl).first 2 rfl
      refine t_norm ⟨l.length - (k + 1), _, rfl, ?_, ?_⟩
      · omega
      · exact ⟨(k + 1), v28, s29, (withS x19.2 (!true) cur), rfl, hH34, (by omega), (ho30), (by rw [next_yes (show l[k]? = some _ from hx20) h24, ← hcur]; rfl), (by first | omega | (have := withS_le x19.2 false cur; simp only [Bool.false_eq_true, if_false] at this; simp only [Bool.not_true]; omega)), e5_0, e5_1, e5_4, rfl, rfl⟩
    · -- not: x19.1 ∈ fr
      refine wp_skip ?_
      refine b_norm ?_
      refine t_norm (hK14 _ _ ?_)
      refine c_region ?_
      refine s_op (o_move (v := (.int .i64 (k : Int))) e5_6 ?_)
      refine s_op (o_add (a := (k : Int)) (b := 1) rfl rfl (w64 (by omega) (by omega)) ?_)
      refine s_op (o_assign (v := (.int .i64 ((k : Int) + 1))) rfl ?_)
      refine s_nil ?_
      refine t_norm ⟨l.length - (k + 1), _, rfl, ?_, ?_⟩
      · omega
      · exact ⟨(k + 1), va, ha, cur, rfl, hH22, (by omega), (hoa), (by rw [next_no (show l[k]? = some _ from hx20) h24, ← hcur]), (by first | omega | (have := withS_le x19.2 false cur; simp only [Bool.false_eq_true, if_false] at this; simp only [Bool.not_true]; omega)), e5_0, e5_1, e5_4, e5_5, rfl⟩
  · -- not: (k : Int) < ((l.length : Nat) : Int)
    refine wp_exit ?_
    refine t_exit (t_exit (x_in (?_)))
    refine t_norm (hK3 _ _ ?_)
    refine wp_seq_k fun K35 hK35 => ?_
    refine c_region ?_
    refine s_op (o_move (v := va) e5_5 ?_)
    refine s_op (o_assign (v := va) rfl ?_)
    refine s_nil ?_
    refine t_norm (hK35 _ _ ?_)
    refine wp_ret ?_
    refine c_ret1 Try.results11  (v := va) rfl ?_
    have e : k = l.length := by omega
    rw [e, List.take_of_length_le (Nat.le_refl _)] at hcur
    exact ⟨_, _, rfl, by rw [← hcur]; exact hoa, hH9⟩
end Go.Q
