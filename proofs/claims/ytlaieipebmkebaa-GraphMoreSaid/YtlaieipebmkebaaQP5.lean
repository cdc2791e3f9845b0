/-
  Parts of a walk: what functions of the program compute, each told by a theorem.
-/
import Derived.Test.YtlaieipebmkebaaQP4
import Derived.Test.YtlaieipebmkebaaQSets
set_option linter.unusedVariables false
set_option linter.unusedSimpArgs false
namespace Go.Q
open Go.Proofs
set_option linter.unusedVariables false
set_option maxRecDepth 100000
attribute [local irreducible] wpList OK Code.wp
set_option maxHeartbeats 4000000 in
theorem refhas_c {E w : World} {R : List Hp} (hH : Has E w [R]) {v : Value} {l : List Int} (hv : Ints R v l) (n : Int) :
    Calls Try.prog 20 #[v, (.int .i64 n)] w fun e w' => e = .returned (.bool (decide (n ∈ l))) ∧ Has E w' [R] := by
  have hn_ := hv.le
  refine c_enter (args := [v, (.int .i64 n)]) Try.func20 rfl Try.ntmps20 (by simp) ?_
  refine wp_seq_k fun K1 hK1 => ?_
  refine c_region ?_
  refine s_op (o_assign (v := (.bool false)) rfl ?_)
  refine s_nil ?_
  refine t_norm (hK1 _ _ ?_)
  refine wp_seq_k fun K2 hK2 => ?_
  refine wp_seq_k fun K3 hK3 => ?_
  refine c_region ?_
  refine s_op (o_assign (v := (.int .i64 0)) rfl ?_)
  refine s_nil ?_
  refine t_norm (hK3 _ _ ?_)
  refine wp_block ?_
  let I5 : Nat → (Nat → Value) → World → Prop := fun n__ r__ w__ => ∃ (k : Nat), n__ = l.length - k ∧ Has E w__ [R] ∧ (k ≤ l.length) ∧ (n ∉ l.take k) ∧ r__ 0 = v ∧ r__ 1 = (.int .i64 n) ∧ r__ 5 = (.int .i64 (k : Int))
  refine c_loop I5 _ ⟨0, rfl, hH, Nat.zero_le _, (by simp), rfl, rfl, rfl⟩ ?_
  rintro n_ r8 w6 ⟨k, rfl, hH7, hk, hn, e4_0, e4_1, e4_5⟩
  refine wp_seq_k fun K9 hK9 => ?_
  refine wp_seq_k fun K10 hK10 => ?_
  refine c_region ?_
  refine s_op (o_move (v := (.int .i64 (k : Int))) e4_5 ?_)
  refine s_op (o_move (v := v) e4_0 ?_)
  refine s_op (o_lenS Try.underlying23 rfl hv ?_)
  refine s_op (o_lss (a := (k : Int)) (b := ((l.length : Nat) : Int)) rfl rfl ?_)
  refine s_nil ?_
  refine t_norm (hK10 _ _ ?_)
  refine c_cond rfl (fun h11 => ?_) (fun h11 => ?_)
  · -- (k : Int) < ((l.length : Nat) : Int)
    refine wp_skip ?_
    refine t_norm (hK9 _ _ ?_)
    refine wp_seq_k fun K12 hK12 => ?_
    refine wp_block ?_
    refine wp_seq_k fun K13 hK13 => ?_
    refine c_region ?_
    refine s_op (o_move (v := v) e4_0 ?_)
    refine s_op (o_move (v := (.int .i64 (k : Int))) e4_5 ?_)
    obtain ⟨x17, hx18⟩ : ∃ x_, l[((k : Int)).toNat]? = some x_ := get_some (by omega)
    refine s_op (o_index1 Try.underlying23 ti3 rfl hv rfl (by omega) hx18 fun b14 o15 hc16 => ?_)
    refine s_op (o_load1 (v := (.int .i64 x17)) Try.underlying3 rfl rfl hH7 (seg_sub 0 rfl) hc16 ?_)
    refine s_op (o_move (v := (.int .i64 n)) e4_1 ?_)
    refine s_op (o_eql (a := x17) (b := n) rfl rfl ?_)
    refine s_nil ?_
    refine t_norm (hK13 _ _ ?_)
    refine c_cond rfl (fun h19 => ?_) (fun h19 => ?_)
    · -- x17 = n
      refine wp_seq_k fun K20 hK20 => ?_
      refine c_region ?_
      refine s_op (o_assign (v := (.bool true)) rfl ?_)
      refine s_nil ?_
      refine t_norm (hK20 _ _ ?_)
      refine wp_ret ?_
      refine b_ret (t_ret (t_ret (b_ret (t_ret (c_ret1 Try.results20  (v := (.bool true)) rfl ?_)))))
      exact ⟨by rw [decide_eq_true (h19 ▸ List.mem_of_getElem? hx18)], hH7⟩
    · -- not: x17 = n
      refine wp_skip ?_
      refine b_norm ?_
      refine t_norm (hK12 _ _ ?_)
      refine c_region ?_
      refine s_op (o_move (v := (.int .i64 (k : Int))) e4_5 ?_)
      refine s_op (o_add (a := (k : Int)) (b := 1) rfl rfl (w64 (by omega) (by omega)) ?_)
      refine s_op (o_assign (v := (.int .i64 ((k : Int) + 1))) rfl ?_)
      refine s_nil ?_
      refine t_norm ⟨l.length - (k + 1), _, rfl, ?_, ?_⟩
      · omega
      · exact ⟨(k + 1), rfl, hH7, (by omega), (by rw [take_succ_of (show l[k]? = some _ from hx18)]; exact fun g => (List.mem_append.1 g).elim hn (fun g => h19 (List.mem_singleton.1 g).symm)), e4_0, e4_1, rfl⟩
  · -- not: (k : Int) < ((l.length : Nat) : Int)
    refine wp_exit ?_
    refine t_exit (t_exit (x_in (?_)))
    refine t_norm (hK2 _ _ ?_)
    refine wp_seq_k fun K21 hK21 => ?_
    refine c_region ?_
    refine s_op (o_assign (v := (.bool false)) rfl ?_)
    refine s_nil ?_
    refine t_norm (hK21 _ _ ?_)
    refine wp_ret ?_
    refine c_ret1 Try.results20  (v := (.bool false)) rfl ?_
    have e : k = l.length := by omega
    rw [e, List.take_of_length_le (Nat.le_refl _)] at hn
    exact ⟨by rw [decide_eq_false hn], hH7⟩
set_option maxHeartbeats 4000000 in
theorem with_c {E w : World} {R : List Hp} (hH : Has E w [R]) {v : Value} {l : List Int} (hv : Ints R v l) (hl : l.length ≤ 400000) (n : Int) (inn : Bool) :
    Calls Try.prog 15 #[v, (.int .i64 n), (.bool inn)] w fun e w' => ∃ v' hs', e = .returned v' ∧ Own 3 1 v' (withS n (!inn) l).length ((withS n (!inn) l).map iV) hs' ∧ Has E w' [hs', R] := by
  have hn_ := hv.le
  refine c_enter (args := [v, (.int .i64 n), (.bool inn)]) Try.func15 rfl Try.ntmps15 (by simp) ?_
  refine wp_seq_k fun K1 hK1 => ?_
  refine c_region ?_
  refine s_op (o_assign (v := (.slice none 0 0)) rfl ?_)
  refine s_nil ?_
  refine t_norm (hK1 _ _ ?_)
  refine wp_seq_k fun K2 hK2 => ?_
  refine c_region ?_
  refine s_op (o_assign (v := (.slice none 0 0)) rfl ?_)
  refine s_nil ?_
  refine t_norm (hK2 _ _ ?_)
  refine wp_seq_k fun K3 hK3 => ?_
  refine c_region ?_
  refine s_op (o_move (v := (.bool inn)) rfl ?_)
  refine s_op (o_not rfl ?_)
  refine s_op (o_assign (v := (.bool (!inn))) rfl ?_)
  refine s_nil ?_
  refine t_norm (hK3 _ _ ?_)
  refine wp_seq_k fun K4 hK4 => ?_
  refine wp_seq_k fun K5 hK5 => ?_
  refine c_region ?_
  refine s_op (o_assign (v := (.int .i64 0)) rfl ?_)
  refine s_nil ?_
  refine t_norm (hK5 _ _ ?_)
  refine wp_block ?_
  let I7 : Nat → (Nat → Value) → World → Prop := fun n__ r__ w__ => ∃ (k : Nat) (d : Bool) (va : Value) (ha : List Hp) (acc : List Int), n__ = l.length - k ∧ Has E w__ [ha, R] ∧ (k ≤ l.length) ∧ (Own 3 1 va acc.length (acc.map iV) ha) ∧ (acc.length ≤ 2 * k) ∧ (withS n (!inn) l = acc ++ withS n d (l.drop k)) ∧ r__ 0 = v ∧ r__ 1 = (.int .i64 n) ∧ r__ 2 = (.bool inn) ∧ r__ 6 = (.slice none 0 0) ∧ r__ 7 = va ∧ r__ 8 = (.bool d) ∧ r__ 9 = (.int .i64 (k : Int))
  have hH8 : Has E w [[], R] := (Has.nil hH).first 2 rfl
  refine c_loop I7 _ ⟨0, (!inn), (.slice none 0 0), [], [], rfl, hH8, Nat.zero_le _, Own.nil 3 1, (by simp), (by simp), rfl, rfl, rfl, rfl, rfl, rfl, rfl⟩ ?_
  rintro n_ r11 w9 ⟨k, d, va, ha, acc, rfl, hH10, hk, hoa, hc, hw, e6_0, e6_1, e6_2, e6_6, e6_7, e6_8, e6_9⟩
  refine wp_seq_k fun K12 hK12 => ?_
  refine wp_seq_k fun K13 hK13 => ?_
  refine c_region ?_
  refine s_op (o_move (v := (.int .i64 (k : Int))) e6_9 ?_)
  refine s_op (o_move (v := v) e6_0 ?_)
  refine s_op (o_lenS Try.underlying23 rfl hv ?_)
  refine s_op (o_lss (a := (k : Int)) (b := ((l.length : Nat) : Int)) rfl rfl ?_)
  refine s_nil ?_
  refine t_norm (hK13 _ _ ?_)
  refine c_cond rfl (fun h14 => ?_) (fun h14 => ?_)
  · -- (k : Int) < ((l.length : Nat) : Int)
    obtain ⟨xx, hxx⟩ : ∃ x_, l[((k : Int)).toNat]? = some x_ := get_some (by omega)
    refine wp_skip ?_
    refine t_norm (hK12 _ _ ?_)
    refine wp_seq_k fun K15 hK15 => ?_
    refine wp_block ?_
    refine wp_seq_k fun K16 hK16 => ?_
    let J18 : (Nat → Value) → World → Prop := fun r__ w__ => ∃ (d2 : Bool) (vb : Value) (hb : List Hp) (ac2 : List Int), Has E w__ [hb, R] ∧ (Own 3 1 vb ac2.length (ac2.map iV) hb) ∧ (ac2.length ≤ 2 * k + 1) ∧ (d2 = (d || decide (n ≤ xx))) ∧ (ac2 = acc ++ (if d = false ∧ n ≤ xx then [n] else [])) ∧ r__ 0 = v ∧ r__ 1 = (.int .i64 n) ∧ r__ 2 = (.bool inn) ∧ r__ 6 = (.slice none 0 0) ∧ r__ 7 = vb ∧ r__ 8 = (.bool d2) ∧ r__ 9 = (.int .i64 (k : Int)) ∧ r__ 15 = (.bool (decide ((k : Int) < ((l.length : Nat) : Int))))
    have hJ19 : ∀ r w, J18 r w → K16 (Go.Q.fr 52 r) w := by
      rintro r22 w20 ⟨d2, vb, hb, ac2, hH21, hob, hc2, hd2, hac2, e17_0, e17_1, e17_2, e17_6, e17_7, e17_8, e17_9, e17_15⟩
      refine hK16 _ _ ?_
      refine wp_seq_k fun K23 hK23 => ?_
      refine c_region ?_
      refine s_op (o_move (v := v) e17_0 ?_)
      refine s_op (o_move (v := (.int .i64 (k : Int))) e17_9 ?_)
      refine s_op (o_index1 Try.underlying23 ti3 rfl hv rfl (by omega) hxx fun b24 o25 hc26 => ?_)
      refine s_op (o_load1 (v := (.int .i64 xx)) Try.underlying3 rfl rfl hH21 (seg_sub 1 rfl) hc26 ?_)
      refine s_op (o_move (v := (.int .i64 n)) e17_1 ?_)
      refine s_op (o_neq (a := xx) (b := n) rfl rfl ?_)
      refine s_nil ?_
      refine t_norm (hK23 _ _ ?_)
      refine c_cond rfl (fun h27 => ?_) (fun h27 => ?_)
      · -- xx ≠ n
        refine c_region ?_
        refine s_op (o_move (v := vb) e17_7 ?_)
        refine s_op (o_move (v := v) e17_0 ?_)
        refine s_op (o_move (v := (.int .i64 (k : Int))) e17_9 ?_)
        refine s_op (o_index1 Try.underlying23 ti3 rfl hv rfl (by omega) hxx fun b28 o29 hc30 => ?_)
        refine s_op (o_load1 (v := (.int .i64 xx)) Try.underlying3 rfl rfl hH21 (seg_sub 1 rfl) hc30 ?_)
        refine s_op (o_buildSlice (ps := #[(0, (.int .i64 xx))]) (cells := #[(.int .i64 xx)]) Try.underlying23 ti3 (by decide) (parts1 rfl) (by kernel_rfl) hH21 fun b31 w32 hH33 => ?_)
        refine s_op (o_append Try.underlying23 ti3 rfl (by decide) rfl hob rfl (sl_lit (f := iV) (l := [xx]) rfl rfl (by simp)) (hH33.front 1 rfl) (seg_sub 0 rfl) (one_iV _) (by simp; omega) (by simp; omega) fun v34 s35 w37 ho36 hH38 => ?_)
        have ho36 : Own 3 1 v34 (ac2 ++ [xx]).length ((ac2 ++ [xx]).map iV) s35 := ho36.app
        refine s_op (o_assign (v := v34) rfl ?_)
        refine s_nil ?_
        refine b_norm ?_
        refine t_norm (hK15 _ _ ?_)
        refine c_region ?_
        refine s_op (o_move (v := (.int .i64 (k : Int))) e17_9 ?_)
        refine s_op (o_add (a := (k : Int)) (b := 1) rfl rfl (w64 (by omega) (by omega)) ?_)
        refine s_op (o_assign (v := (.int .i64 ((k : Int) + 1))) rfl ?_)
        refine s_nil ?_
        have hH39 : Has E w37 [s35, R] := ((hH38.front 2 rfl).front 1 rfl).first 2 rfl
        refine t_norm ⟨l.length - (k + 1), _, rfl, ?_, ?_⟩
        · omega
        · exact ⟨(k + 1), d2, v34, s35, (ac2 ++ [xx]), rfl, hH39, (by omega), (ho36), (by first | omega | (simp only [List.length_append, List.length_cons, List.length_nil]; omega)), (by have g_ := with_step hw (show l[k]? = some xx from hxx); rw [hd2, hac2]; rw [if_pos h27] at g_; simpa [List.append_assoc] using g_), e17_0, e17_1, e17_2, e17_6, rfl, e17_8, rfl⟩
      · -- not: xx ≠ n
        refine wp_skip ?_
        refine b_norm ?_
        refine t_norm (hK15 _ _ ?_)
        refine c_region ?_
        refine s_op (o_move (v := (.int .i64 (k : Int))) e17_9 ?_)
        refine s_op (o_add (a := (k : Int)) (b := 1) rfl rfl (w64 (by omega) (by omega)) ?_)
        refine s_op (o_assign (v := (.int .i64 ((k : Int) + 1))) rfl ?_)
        refine s_nil ?_
        refine t_norm ⟨l.length - (k + 1), _, rfl, ?_, ?_⟩
        · omega
        · exact ⟨(k + 1), d2, vb, hb, ac2, rfl, hH21, (by omega), (hob), (by first | omega | (simp only [List.length_append, List.length_cons, List.length_nil]; omega)), (by have g_ := with_step hw (show l[k]? = some xx from hxx); rw [hd2, hac2]; rw [if_neg h27] at g_; simpa [List.append_assoc] using g_), e17_0, e17_1, e17_2, e17_6, e17_7, e17_8, rfl⟩
    refine wp_seq_k fun K40 hK40 => ?_
    refine c_region ?_
    refine s_op (o_move (v := (.bool d)) e6_8 ?_)
    refine s_op (o_not rfl ?_)
    refine s_op (o_move (v := (.bool (!d))) rfl ?_)
    rcases Bool.eq_false_or_eq_true (!d) with h41 | h41
    · -- !d
      refine s_on 20 rfl (congrArg Value.bool h41) (o_move (v := v) e6_0 ?_)
      refine s_on 20 rfl (congrArg Value.bool h41) (o_move (v := (.int .i64 (k : Int))) e6_9 ?_)
      refine s_on 20 rfl (congrArg Value.bool h41) (o_index1 Try.underlying23 ti3 rfl hv rfl (by omega) hxx fun b42 o43 hc44 => ?_)
      refine s_on 20 rfl (congrArg Value.bool h41) (o_load1 (v := (.int .i64 xx)) Try.underlying3 rfl rfl hH10 (seg_sub 1 rfl) hc44 ?_)
      refine s_on 20 rfl (congrArg Value.bool h41) (o_move (v := (.int .i64 n)) e6_1 ?_)
      refine s_on 20 rfl (congrArg Value.bool h41) (o_geq (a := xx) (b := n) rfl rfl ?_)
      refine s_op (o_pick_t (u := (.bool (decide (n ≤ xx)))) ((rfl : _ = _).trans (congrArg Value.bool h41)) rfl ?_)
      refine s_nil ?_
      refine t_norm (hK40 _ _ ?_)
      refine c_cond rfl (fun h45 => ?_) (fun h45 => ?_)
      · -- n ≤ xx
        refine wp_seq_k fun K46 hK46 => ?_
        refine c_region ?_
        refine s_op (o_move (v := va) e6_7 ?_)
        refine s_op (o_move (v := (.int .i64 n)) e6_1 ?_)
        refine s_op (o_buildSlice (ps := #[(0, (.int .i64 n))]) (cells := #[(.int .i64 n)]) Try.underlying23 ti3 (by decide) (parts1 rfl) (by kernel_rfl) hH10 fun b47 w48 hH49 => ?_)
        refine s_op (o_append Try.underlying23 ti3 rfl (by decide) rfl hoa rfl (sl_lit (f := iV) (l := [n]) rfl rfl (by simp)) (hH49.front 1 rfl) (seg_sub 0 rfl) (one_iV _) (by simp; omega) (by simp; omega) fun v50 s51 w53 ho52 hH54 => ?_)
        have ho52 : Own 3 1 v50 (acc ++ [n]).length ((acc ++ [n]).map iV) s51 := ho52.app
        refine s_op (o_assign (v := v50) rfl ?_)
        refine s_nil ?_
        refine t_norm (hK46 _ _ ?_)
        refine c_region ?_
        refine s_op (o_assign (v := (.bool true)) rfl ?_)
        refine s_nil ?_
        have hH55 : Has E w53 [s51, R] := ((hH54.front 2 rfl).front 1 rfl).first 2 rfl
        refine t_norm (hJ19 _ _ ⟨true, v50, s51, (acc ++ [n]), hH55, (ho52), (by first | omega | (simp only [List.length_append, List.length_cons, List.length_nil]; omega)), (by simp_all), (by simp_all), e6_0, e6_1, e6_2, e6_6, rfl, rfl, e6_9, rfl⟩)
      · -- not: n ≤ xx
        refine wp_skip ?_
        refine t_norm (hJ19 _ _ ⟨d, va, ha, acc, hH10, (hoa), (by first | omega | (simp only [List.length_append, List.length_cons, List.length_nil]; omega)), (by simp_all), (by simp_all), e6_0, e6_1, e6_2, e6_6, e6_7, e6_8, e6_9, rfl⟩)
    · -- not: !d
      refine s_off (b' := false) 20 rfl (congrArg Value.bool h41) rfl ?_
      refine s_off (b' := false) 20 rfl (congrArg Value.bool h41) rfl ?_
      refine s_off (b' := false) 20 rfl (congrArg Value.bool h41) rfl ?_
      refine s_off (b' := false) 20 rfl (congrArg Value.bool h41) rfl ?_
      refine s_off (b' := false) 20 rfl (congrArg Value.bool h41) rfl ?_
      refine s_off (b' := false) 20 rfl (congrArg Value.bool h41) rfl ?_
      refine s_op (o_pick_f (u := (.bool false)) ((rfl : _ = _).trans (congrArg Value.bool h41)) rfl ?_)
      refine s_nil ?_
      refine t_norm (hK40 _ _ ?_)
      refine c_false rfl rfl ?_
      refine wp_skip ?_
      refine t_norm (hJ19 _ _ ⟨d, va, ha, acc, hH10, (hoa), (by first | omega | (simp only [List.length_append, List.length_cons, List.length_nil]; omega)), (by simp_all), (by simp_all), e6_0, e6_1, e6_2, e6_6, e6_7, e6_8, e6_9, rfl⟩)
  · -- not: (k : Int) < ((l.length : Nat) : Int)
    refine wp_exit ?_
    refine t_exit (t_exit (x_in (?_)))
    refine t_norm (hK4 _ _ ?_)
    refine wp_seq_k fun K56 hK56 => ?_
    refine wp_seq_k fun K57 hK57 => ?_
    refine c_region ?_
    refine s_op (o_move (v := (.bool d)) e6_8 ?_)
    refine s_op (o_not rfl ?_)
    refine s_nil ?_
    refine t_norm (hK57 _ _ ?_)
    refine c_condb rfl (fun h58 => ?_) (fun h58 => ?_)
    · -- !d
      have h58_n : d = false := by simpa using h58
      refine c_region ?_
      refine s_op (o_move (v := va) e6_7 ?_)
      refine s_op (o_move (v := (.int .i64 n)) e6_1 ?_)
      refine s_op (o_buildSlice (ps := #[(0, (.int .i64 n))]) (cells := #[(.int .i64 n)]) Try.underlying23 ti3 (by decide) (parts1 rfl) (by kernel_rfl) hH10 fun b59 w60 hH61 => ?_)
      refine s_op (o_append Try.underlying23 ti3 rfl (by decide) rfl hoa rfl (sl_lit (f := iV) (l := [n]) rfl rfl (by simp)) (hH61.front 1 rfl) (seg_sub 0 rfl) (one_iV _) (by simp; omega) (by simp; omega) fun v62 s63 w65 ho64 hH66 => ?_)
      have ho64 : Own 3 1 v62 (acc ++ [n]).length ((acc ++ [n]).map iV) s63 := ho64.app
      refine s_op (o_assign (v := v62) rfl ?_)
      refine s_nil ?_
      refine t_norm (hK56 _ _ ?_)
      refine wp_seq_k fun K67 hK67 => ?_
      refine c_region ?_
      refine s_op (o_move (v := v62) rfl ?_)
      refine s_op (o_assign (v := v62) rfl ?_)
      refine s_nil ?_
      refine t_norm (hK67 _ _ ?_)
      refine wp_ret ?_
      refine c_ret1 Try.results15  (v := v62) rfl ?_
      have hH68 : Has E w65 [s63, R] := ((hH66.front 2 rfl).front 1 rfl).first 2 rfl
      have e : k = l.length := by omega
      rw [e, List.drop_length] at hw
      have hw2 : withS n (!inn) l = acc ++ [n] := by rw [hw, withS]; simp_all
      exact ⟨_, _, rfl, by rw [hw2]; exact ho64, hH68⟩
    · -- not: !d
      have h58_n : d = true := by simpa using h58
      refine wp_skip ?_
      refine t_norm (hK56 _ _ ?_)
      refine wp_seq_k fun K69 hK69 => ?_
      refine c_region ?_
      refine s_op (o_move (v := va) e6_7 ?_)
      refine s_op (o_assign (v := va) rfl ?_)
      refine s_nil ?_
      refine t_norm (hK69 _ _ ?_)
      refine wp_ret ?_
      refine c_ret1 Try.results15  (v := va) rfl ?_
      have e : k = l.length := by omega
      rw [e, List.drop_length] at hw
      have hw2 : withS n (!inn) l = acc := by rw [hw, withS]; simp_all
      exact ⟨_, _, rfl, by rw [hw2]; exact hoa, hH10⟩
end Go.Q
