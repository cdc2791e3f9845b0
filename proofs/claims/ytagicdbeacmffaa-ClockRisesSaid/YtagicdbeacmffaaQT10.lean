/-
  Parts of a walk: what functions of the program compute, each told by a theorem.
-/
import Derived.Test.YtagicdbeacmffaaQC9
import Derived.Test.YtagicdbeacmffaaQBase
set_option linter.unusedVariables false
set_option linter.unusedSimpArgs false
namespace Go.Q
open Go.Proofs
set_option linter.unusedVariables false
set_option maxRecDepth 100000
attribute [local irreducible] wpList OK Code.wp
set_option maxHeartbeats 4000000 in
theorem great_c {E w : World} {R : List Hp} (hH : Has E w [R]) {v : Value} {l : List ActL} (hv : Sl R 6 v l.length (l.flatMap actC)) (hok : ∀ a ∈ l, Ints R a.more a.ml) :
    Calls Try.prog 11 #[v] w fun e w' => e = .returned (.bool (greatS l)) ∧ Has E w' [R] := by
  have hn_ := hv.le
  have hml := fun (x : ActL) (hx : x ∈ l) => (hok x hx).le
  refine c_enter (args := [v]) Try.func11 rfl Try.ntmps11 (by simp) ?_
  refine wp_seq_k fun K1 hK1 => ?_
  refine c_region ?_
  refine s_op (o_assign (v := (.bool false)) rfl ?_)
  refine s_nil ?_
  refine t_norm (hK1 _ _ ?_)
  refine wp_seq_k fun K2 hK2 => ?_
  refine wp_seq_k fun K3 hK3 => ?_
  refine c_region ?_
  refine s_op (o_move (v := v) rfl ?_)
  refine s_op (o_lenS Try.underlying22 rfl hv ?_)
  refine s_op (o_gtr (a := ((l.length : Nat) : Int)) (b := 60) rfl rfl ?_)
  refine s_nil ?_
  refine t_norm (hK3 _ _ ?_)
  refine c_cond rfl (fun h4 => ?_) (fun h4 => ?_)
  · -- 60 < ((l.length : Nat) : Int)
    refine wp_seq_k fun K5 hK5 => ?_
    refine c_region ?_
    refine s_op (o_assign (v := (.bool true)) rfl ?_)
    refine s_nil ?_
    refine t_norm (hK5 _ _ ?_)
    refine wp_ret ?_
    refine t_ret (c_ret1 Try.results11 (v := (.bool true)) rfl ?_)
    exact ⟨by rw [greatS_len (by omega)], hH⟩
  · -- not: 60 < ((l.length : Nat) : Int)
    refine wp_skip ?_
    refine t_norm (hK2 _ _ ?_)
    refine wp_seq_k fun K6 hK6 => ?_
    refine wp_seq_k fun K7 hK7 => ?_
    refine c_region ?_
    refine s_op (o_assign (v := (.int .i64 0)) rfl ?_)
    refine s_nil ?_
    refine t_norm (hK7 _ _ ?_)
    refine wp_block ?_
    let I9 : Nat → (Nat → Value) → World → Prop := fun n__ r__ w__ => ∃ (k : Nat), n__ = l.length - k ∧ Has E w__ [R] ∧ (k ≤ l.length) ∧ (∀ a ∈ l.take k, a.ml.length ≤ 10) ∧ r__ 0 = v ∧ r__ 3 = (.int .i64 (k : Int)) ∧ r__ 6 = (.bool (decide (60 < ((l.length : Nat) : Int))))
    refine c_loop I9 _ ⟨0, rfl, hH, (by omega), (by simp), rfl, rfl, rfl⟩ ?_
    rintro n_ r12 w10 ⟨k, rfl, hH11, hk, hn, e8_0, e8_3, e8_6⟩
    refine wp_seq_k fun K13 hK13 => ?_
    refine wp_seq_k fun K14 hK14 => ?_
    refine c_region ?_
    refine s_op (o_move (v := (.int .i64 (k : Int))) e8_3 ?_)
    refine s_op (o_move (v := v) e8_0 ?_)
    refine s_op (o_lenS Try.underlying22 rfl hv ?_)
    refine s_op (o_lss (a := (k : Int)) (b := ((l.length : Nat) : Int)) rfl rfl ?_)
    refine s_nil ?_
    refine t_norm (hK14 _ _ ?_)
    refine c_cond rfl (fun h15 => ?_) (fun h15 => ?_)
    · -- (k : Int) < ((l.length : Nat) : Int)
      refine wp_skip ?_
      refine t_norm (hK13 _ _ ?_)
      refine wp_seq_k fun K16 hK16 => ?_
      refine wp_block ?_
      refine wp_seq_k fun K17 hK17 => ?_
      refine c_region ?_
      refine s_op (o_move (v := v) e8_0 ?_)
      refine s_op (o_move (v := (.int .i64 (k : Int))) e8_3 ?_)
      obtain ⟨x21, hx22⟩ : ∃ x_, l[((k : Int)).toNat]? = some x_ := get_some (by omega)
      refine s_op (o_indexF actC_len Try.underlying22 ti30 rfl hv rfl rfl (by omega) hx22 fun b18 o19 hc20 => ?_)
      refine s_op (o_fieldAddr (k := o19 + 5) (fun _ => by kernel_rfl) rfl ?_)
      refine s_op (o_load1 (v := x21.more) Try.underlying28 rfl rfl hH11 (seg_sub 0 rfl) (CellsAt.field (k := 5) (ds := [x21.more]) hc20 rfl) ?_)
      refine s_op (o_lenS Try.underlying28 rfl (hok x21 (List.mem_of_getElem? hx22)) ?_)
      refine s_op (o_gtr (a := ((x21.ml.length : Nat) : Int)) (b := 10) rfl rfl ?_)
      refine s_nil ?_
      refine t_norm (hK17 _ _ ?_)
      refine c_cond rfl (fun h23 => ?_) (fun h23 => ?_)
      · -- 10 < ((x21.ml.length : Nat) : Int)
        refine wp_seq_k fun K24 hK24 => ?_
        refine c_region ?_
        refine s_op (o_assign (v := (.bool true)) rfl ?_)
        refine s_nil ?_
        refine t_norm (hK24 _ _ ?_)
        refine wp_ret ?_
        refine b_ret (t_ret (t_ret (b_ret (t_ret (c_ret1 Try.results11 (v := (.bool true)) rfl ?_)))))
        exact ⟨by rw [greatS_el (List.mem_of_getElem? hx22) (by omega)], hH11⟩
      · -- not: 10 < ((x21.ml.length : Nat) : Int)
        refine wp_skip ?_
        refine b_norm ?_
        refine t_norm (hK16 _ _ ?_)
        refine c_region ?_
        refine s_op (o_move (v := (.int .i64 (k : Int))) e8_3 ?_)
        refine s_op (o_add (a := (k : Int)) (b := 1) rfl rfl (w64 (by omega) (by omega)) ?_)
        refine s_op (o_assign (v := (.int .i64 ((k : Int) + 1))) rfl ?_)
        refine s_nil ?_
        refine t_norm ⟨l.length - (k + 1), _, rfl, ?_, ?_⟩
        · omega
        · exact ⟨(k + 1), rfl, hH11, (by omega), (by rw [take_succ_of (show l[k]? = some _ from hx22)]; exact fun y hy => (List.mem_append.1 hy).elim (hn y) (fun g => by rw [List.mem_singleton.1 g]; omega)), e8_0, rfl, e8_6⟩
    · -- not: (k : Int) < ((l.length : Nat) : Int)
      refine wp_exit ?_
      refine t_exit (t_exit (x_in (?_)))
      refine t_norm (hK6 _ _ ?_)
      refine wp_seq_k fun K25 hK25 => ?_
      refine c_region ?_
      refine s_op (o_assign (v := (.bool false)) rfl ?_)
      refine s_nil ?_
      refine t_norm (hK25 _ _ ?_)
      refine wp_ret ?_
      refine c_ret1 Try.results11 (v := (.bool false)) rfl ?_
      have e : k = l.length := by omega
      rw [e, List.take_of_length_le (Nat.le_refl _)] at hn
      exact ⟨by rw [greatS_no (by omega) hn], hH11⟩
set_option maxHeartbeats 4000000 in
theorem find_c {E w : World} {R : List Hp} (hH : Has E w [R]) {v : Value} {l : List (Int × Int)} (hv : Sl R 2 v l.length (l.flatMap tmC)) (key : Int) :
    Calls Try.prog 16 #[v, (.int .i64 key)] w fun e w' => e = .returned (.int .i64 (findT l key)) ∧ Has E w' [R] := by
  have hn := hv.le
  refine c_enter (args := [v, (.int .i64 key)]) Try.func16 rfl Try.ntmps16 (by simp) ?_
  refine wp_seq_k fun K1 hK1 => ?_
  refine c_region ?_
  refine s_op (o_assign (v := (.int .i64 0)) rfl ?_)
  refine s_nil ?_
  refine t_norm (hK1 _ _ ?_)
  refine wp_seq_k fun K2 hK2 => ?_
  refine wp_seq_k fun K3 hK3 => ?_
  refine c_region ?_
  refine s_op (o_assign (v := (.int .i64 0)) rfl ?_)
  refine s_nil ?_
  refine t_norm (hK3 _ _ ?_)
  refine wp_block ?_
  let I5 : Nat → (Nat → Value) → World → Prop := fun n__ r__ w__ => ∃ (k : Nat), n__ = l.length - k ∧ Has E w__ [R] ∧ (k ≤ l.length) ∧ (findT l key = findT (l.drop k) key) ∧ r__ 0 = v ∧ r__ 1 = (.int .i64 key) ∧ r__ 5 = (.int .i64 (k : Int))
  refine c_loop I5 _ ⟨0, rfl, hH, (by omega), rfl, rfl, rfl, rfl⟩ ?_
  rintro n_ r8 w6 ⟨k, rfl, hH7, hk, hf, e4_0, e4_1, e4_5⟩
  refine wp_seq_k fun K9 hK9 => ?_
  refine wp_seq_k fun K10 hK10 => ?_
  refine c_region ?_
  refine s_op (o_move (v := (.int .i64 (k : Int))) e4_5 ?_)
  refine s_op (o_move (v := v) e4_0 ?_)
  refine s_op (o_lenS Try.underlying27 rfl hv ?_)
  refine s_op (o_lss (a := (k : Int)) (b := ((l.length : Nat) : Int)) rfl rfl ?_)
  refine s_nil ?_
  refine t_norm (hK10 _ _ ?_)
  refine c_cond rfl (fun h11 => ?_) (fun h11 => ?_)
  · -- (k : Int) < ((l.length : Nat) : Int)
    refine wp_skip ?_
    refine t_norm (hK9 _ _ ?_)
    refine wp_seq_k fun K12 hK12 => ?_
    refine wp_block ?_
    refine wp_seq_k fun K13 hK13 => ?_
    refine c_region ?_
    refine s_op (o_move (v := v) e4_0 ?_)
    refine s_op (o_move (v := (.int .i64 (k : Int))) e4_5 ?_)
    obtain ⟨x17, hx18⟩ : ∃ x_, l[((k : Int)).toNat]? = some x_ := get_some (by omega)
    refine s_op (o_indexF tmC_len Try.underlying27 ti77 rfl hv rfl rfl (by omega) hx18 fun b14 o15 hc16 => ?_)
    refine s_op (o_fieldAddr (k := o15) (fun _ => by kernel_rfl) rfl ?_)
    refine s_op (o_load1 (v := (.int .i64 x17.1)) Try.underlying3 rfl rfl hH7 (seg_sub 0 rfl) (CellsAt.field (k := 0) (ds := [(.int .i64 x17.1)]) hc16 rfl) ?_)
    refine s_op (o_move (v := (.int .i64 key)) e4_1 ?_)
    refine s_op (o_eql (a := x17.1) (b := key) rfl rfl ?_)
    refine s_nil ?_
    refine t_norm (hK13 _ _ ?_)
    refine c_cond rfl (fun h19 => ?_) (fun h19 => ?_)
    · -- x17.1 = key
      refine wp_seq_k fun K20 hK20 => ?_
      refine c_region ?_
      refine s_op (o_move (v := v) e4_0 ?_)
      refine s_op (o_move (v := (.int .i64 (k : Int))) e4_5 ?_)
      refine s_op (o_indexF tmC_len Try.underlying27 ti77 rfl hv rfl rfl (by omega) hx18 fun b21 o22 hc23 => ?_)
      refine s_op (o_fieldAddr (k := o22 + 1) (fun _ => by kernel_rfl) rfl ?_)
      refine s_op (o_load1 (v := (.int .i64 x17.2)) Try.underlying3 rfl rfl hH7 (seg_sub 0 rfl) (CellsAt.field (k := 1) (ds := [(.int .i64 x17.2)]) hc23 rfl) ?_)
      refine s_op (o_assign (v := (.int .i64 x17.2)) rfl ?_)
      refine s_nil ?_
      refine t_norm (hK20 _ _ ?_)
      refine wp_ret ?_
      refine b_ret (t_ret (t_ret (b_ret (t_ret (c_ret1 Try.results16 (v := (.int .i64 x17.2)) rfl ?_)))))
      exact ⟨by rw [hf, drop_of (show l[k]? = some _ from hx18), findT, if_pos (by assumption)], hH7⟩
    · -- not: x17.1 = key
      refine wp_skip ?_
      refine b_norm ?_
      refine t_norm (hK12 _ _ ?_)
      refine c_region ?_
      refine s_op (o_move (v := (.int .i64 (k : Int))) e4_5 ?_)
      refine s_op (o_add (a := (k : Int)) (b := 1) rfl rfl (w64 (by omega) (by omega)) ?_)
      refine s_op (o_assign (v := (.int .i64 ((k : Int) + 1))) rfl ?_)
      refine s_nil ?_
      refine t_norm ⟨l.length - (k + 1), _, rfl, ?_, ?_⟩
      · omega
      · exact ⟨(k + 1), rfl, hH7, (by omega), (by rw [hf, drop_of (show l[k]? = some _ from hx18), findT, if_neg (by assumption)]), e4_0, e4_1, rfl⟩
  · -- not: (k : Int) < ((l.length : Nat) : Int)
    refine wp_exit ?_
    refine t_exit (t_exit (x_in (?_)))
    refine t_norm (hK2 _ _ ?_)
    refine wp_seq_k fun K24 hK24 => ?_
    refine c_region ?_
    refine s_op (o_assign (v := (.int .i64 0)) rfl ?_)
    refine s_nil ?_
    refine t_norm (hK24 _ _ ?_)
    refine wp_ret ?_
    refine c_ret1 Try.results16 (v := (.int .i64 0)) rfl ?_
    have e : k = l.length := by omega
    exact ⟨by rw [hf, e, List.drop_length]; rfl, hH7⟩
set_option maxHeartbeats 4000000 in
theorem with_c {E w : World} {R hs : List Hp} (hH : Has E w [hs, R]) {v : Value} {l : List (Int × Int)} (ho : Own 77 2 v l.length (l.flatMap tmC) hs) (hl : l.length ≤ 1000000) (key n : Int) :
    Calls Try.prog 15 #[v, (.int .i64 key), (.int .i64 n)] w fun e w' => ∃ v' hs', e = .returned v' ∧ Own 77 2 v' (withT l key n).length ((withT l key n).flatMap tmC) hs' ∧ Has E w' [hs', R] := by
  refine c_enter (args := [v, (.int .i64 key), (.int .i64 n)]) Try.func15 rfl Try.ntmps15 (by simp) ?_
  refine wp_seq_k fun K1 hK1 => ?_
  refine c_region ?_
  refine s_op (o_assign (v := (.slice none 0 0)) rfl ?_)
  refine s_nil ?_
  refine t_norm (hK1 _ _ ?_)
  refine wp_seq_k fun K2 hK2 => ?_
  refine wp_seq_k fun K3 hK3 => ?_
  refine c_region ?_
  refine s_op (o_move (v := (.int .i64 key)) rfl ?_)
  refine s_op (o_lss (a := key) (b := 0) rfl rfl ?_)
  refine s_nil ?_
  refine t_norm (hK3 _ _ ?_)
  refine c_cond rfl (fun h4 => ?_) (fun h4 => ?_)
  · -- key < 0
    refine wp_seq_k fun K5 hK5 => ?_
    refine c_region ?_
    refine s_op (o_move (v := v) rfl ?_)
    refine s_op (o_assign (v := v) rfl ?_)
    refine s_nil ?_
    refine t_norm (hK5 _ _ ?_)
    refine wp_ret ?_
    refine t_ret (c_ret1 Try.results15 (v := v) rfl ?_)
    exact ⟨_, _, rfl, by rw [withT, if_pos (by omega)]; exact ho, hH⟩
  · -- not: key < 0
    refine wp_skip ?_
    refine t_norm (hK2 _ _ ?_)
    refine wp_seq_k fun K6 hK6 => ?_
    refine c_region ?_
    refine s_op (o_assign (v := (.slice none 0 0)) rfl ?_)
    refine s_nil ?_
    refine t_norm (hK6 _ _ ?_)
    refine wp_seq_k fun K7 hK7 => ?_
    refine wp_seq_k fun K8 hK8 => ?_
    refine c_region ?_
    refine s_op (o_assign (v := (.int .i64 0)) rfl ?_)
    refine s_nil ?_
    refine t_norm (hK8 _ _ ?_)
    refine wp_block ?_
    let I10 : Nat → (Nat → Value) → World → Prop := fun n__ r__ w__ => ∃ (k : Nat) (va : Value) (ha : List Hp) (acc : List (Int × Int)), n__ = l.length - k ∧ Has E w__ [ha, hs, R] ∧ (k ≤ l.length) ∧ (Own 77 2 va acc.length (acc.flatMap tmC) ha) ∧ (acc = (l.take k).filter (fun p => decide (p.1 ≠ key))) ∧ (acc.length ≤ k) ∧ r__ 0 = v ∧ r__ 1 = (.int .i64 key) ∧ r__ 2 = (.int .i64 n) ∧ r__ 6 = (.slice none 0 0) ∧ r__ 7 = va ∧ r__ 8 = (.int .i64 (k : Int)) ∧ r__ 10 = (.bool (decide (key < 0)))
    have hH11 : Has E w [[], hs, R] := ((Has.nil ((hH.front 1 rfl).front 1 rfl)).front 0 rfl).first 3 rfl
    refine c_loop I10 _ ⟨0, (.slice none 0 0), [], [], rfl, hH11, (by omega), Own.nil 77 2, rfl, (by simp), rfl, rfl, rfl, rfl, rfl, rfl, rfl⟩ ?_
    rintro n_ r14 w12 ⟨k, va, ha, acc, rfl, hH13, hk, hoa, hacc, hac, e9_0, e9_1, e9_2, e9_6, e9_7, e9_8, e9_10⟩
    refine wp_seq_k fun K15 hK15 => ?_
    refine wp_seq_k fun K16 hK16 => ?_
    refine c_region ?_
    refine s_op (o_move (v := (.int .i64 (k : Int))) e9_8 ?_)
    refine s_op (o_move (v := v) e9_0 ?_)
    refine s_op (o_lenS Try.underlying27 rfl ho.sl ?_)
    refine s_op (o_lss (a := (k : Int)) (b := ((l.length : Nat) : Int)) rfl rfl ?_)
    refine s_nil ?_
    refine t_norm (hK16 _ _ ?_)
    refine c_cond rfl (fun h17 => ?_) (fun h17 => ?_)
    · -- (k : Int) < ((l.length : Nat) : Int)
      refine wp_skip ?_
      refine t_norm (hK15 _ _ ?_)
      refine wp_seq_k fun K18 hK18 => ?_
      refine wp_block ?_
      refine wp_seq_k fun K19 hK19 => ?_
      refine c_region ?_
      refine s_op (o_move (v := v) e9_0 ?_)
      refine s_op (o_move (v := (.int .i64 (k : Int))) e9_8 ?_)
      obtain ⟨x23, hx24⟩ : ∃ x_, l[((k : Int)).toNat]? = some x_ := get_some (by omega)
      refine s_op (o_indexF tmC_len Try.underlying27 ti77 rfl ho.sl rfl rfl (by omega) hx24 fun b20 o21 hc22 => ?_)
      refine s_op (o_fieldAddr (k := o21) (fun _ => by kernel_rfl) rfl ?_)
      refine s_op (o_load1 (v := (.int .i64 x23.1)) Try.underlying3 rfl rfl hH13 (seg_sub 1 rfl) (CellsAt.field (k := 0) (ds := [(.int .i64 x23.1)]) hc22 rfl) ?_)
      refine s_op (o_move (v := (.int .i64 key)) e9_1 ?_)
      refine s_op (o_neq (a := x23.1) (b := key) rfl rfl ?_)
      refine s_nil ?_
      refine t_norm (hK19 _ _ ?_)
      refine c_cond rfl (fun h25 => ?_) (fun h25 => ?_)
      · -- x23.1 ≠ key
        refine c_region ?_
        refine s_op (o_move (v := va) e9_7 ?_)
        refine s_op (o_move (v := v) e9_0 ?_)
        refine s_op (o_move (v := (.int .i64 (k : Int))) e9_8 ?_)
        refine s_op (o_indexF tmC_len Try.underlying27 ti77 rfl ho.sl rfl rfl (by omega) hx24 fun b26 o27 hc28 => ?_)
        refine s_op (o_loadN (cs := [(.int .i64 x23.1), (.int .i64 x23.2)]) Try.underlying77 rfl ti77 rfl hH13 (seg_sub 1 rfl) hc28 ?_)
        refine s_op (o_buildSlice (ps := #[(0, (.agg #[(.int .i64 x23.1), (.int .i64 x23.2)]))]) (cells := #[(.int .i64 x23.1), (.int .i64 x23.2)]) Try.underlying27 ti77 (by decide) (parts1 rfl) (by kernel_rfl) hH13 fun b29 w30 hH31 => ?_)
        refine s_op (o_append Try.underlying27 ti77 rfl (by decide) rfl hoa rfl (sl_litF (f := tmC) (l := [(x23.1, x23.2)]) tmC_len rfl rfl (by simp)) (hH31.front 1 rfl) (seg_sub 0 rfl) (one_tm _) (by simp; omega) (by simp; omega) fun v32 s33 w35 ho34 hH36 => ?_)
        have ho34 : Own 77 2 v32 (acc ++ [(x23.1, x23.2)]).length ((acc ++ [(x23.1, x23.2)]).flatMap tmC) s33 := ho34.appF
        refine s_op (o_assign (v := v32) rfl ?_)
        refine s_nil ?_
        refine b_norm ?_
        refine t_norm (hK18 _ _ ?_)
        refine c_region ?_
        refine s_op (o_move (v := (.int .i64 (k : Int))) e9_8 ?_)
        refine s_op (o_add (a := (k : Int)) (b := 1) rfl rfl (w64 (by omega) (by omega)) ?_)
        refine s_op (o_assign (v := (.int .i64 ((k : Int) + 1))) rfl ?_)
        refine s_nil ?_
        have hH37 : Has E w35 [s33, hs, R] := (((hH36.front 3 rfl).front 3 rfl).front 2 rfl).first 3 rfl
        refine t_norm ⟨l.length - (k + 1), _, rfl, ?_, ?_⟩
        · omega
        · exact ⟨(k + 1), v32, s33, (acc ++ [(x23.1, x23.2)]), rfl, hH37, (by omega), (ho34), (filter_yes hacc hx24 (by assumption)), (by first | omega | (simp only [List.length_append, List.length_cons, List.length_nil]; omega)), e9_0, e9_1, e9_2, e9_6, rfl, rfl, e9_10⟩
      · -- not: x23.1 ≠ key
        refine wp_skip ?_
        refine b_norm ?_
        refine t_norm (hK18 _ _ ?_)
        refine c_region ?_
        refine s_op (o_move (v := (.int .i64 (k : Int))) e9_8 ?_)
        refine s_op (o_add (a := (k : Int)) (b := 1) rfl rfl (w64 (by omega) (by omega)) ?_)
        refine s_op (o_assign (v := (.int .i64 ((k : Int) + 1))) rfl ?_)
        refine s_nil ?_
        refine t_norm ⟨l.length - (k + 1), _, rfl, ?_, ?_⟩
        · omega
        · exact ⟨(k + 1), va, ha, acc, rfl, hH13, (by omega), (hoa), (filter_no hacc hx24 (by assumption)), (by first | omega | (simp only [List.length_append, List.length_cons, List.length_nil]; omega)), e9_0, e9_1, e9_2, e9_6, e9_7, rfl, e9_10⟩
    · -- not: (k : Int) < ((l.length : Nat) : Int)
      refine wp_exit ?_
      refine t_exit (t_exit (x_in (?_)))
      refine t_norm (hK7 _ _ ?_)
      refine wp_seq_k fun K38 hK38 => ?_
      refine c_region ?_
      refine s_op (o_move (v := va) e9_7 ?_)
      refine s_op (o_move (v := (.int .i64 key)) e9_1 ?_)
      refine s_op (o_move (v := (.int .i64 n)) e9_2 ?_)
      refine s_op (o_sight (v := (.agg #[(.int .i64 key), (.int .i64 n)])) (fun _ => by kernel_rfl) ?_)
      refine s_op (o_buildSlice (ps := #[(0, (.agg #[(.int .i64 key), (.int .i64 n)]))]) (cells := #[(.int .i64 key), (.int .i64 n)]) Try.underlying27 ti77 (by decide) (parts1 rfl) (by kernel_rfl) hH13 fun b39 w40 hH41 => ?_)
      refine s_op (o_append Try.underlying27 ti77 rfl (by decide) rfl hoa rfl (sl_litF (f := tmC) (l := [(key, n)]) tmC_len rfl rfl (by simp)) (hH41.front 1 rfl) (seg_sub 0 rfl) (one_tm _) (by simp; omega) (by simp; omega) fun v42 s43 w45 ho44 hH46 => ?_)
      have ho44 : Own 77 2 v42 (acc ++ [(key, n)]).length ((acc ++ [(key, n)]).flatMap tmC) s43 := ho44.appF
      refine s_op (o_assign (v := v42) rfl ?_)
      refine s_nil ?_
      refine t_norm (hK38 _ _ ?_)
      refine wp_ret ?_
      refine c_ret1 Try.results15 (v := v42) rfl ?_
      have hH47 : Has E w45 [s43, R] := ((hH46.front 3 rfl).front 1 rfl).first 2 rfl
      have e : k = l.length := by omega
      rw [e, List.take_of_length_le (Nat.le_refl _)] at hacc
      exact ⟨_, _, rfl, by rw [withT, if_neg (by omega), ← hacc]; exact ho44, hH47⟩
end Go.Q
