/-
  Parts of a walk: what functions of the program compute, each told by a theorem.
-/
import Derived.Test.YtlaieipebmkebaaQP10
import Derived.Test.YtlaieipebmkebaaQWay
set_option linter.unusedVariables false
set_option linter.unusedSimpArgs false
namespace Go.Q
open Go.Proofs
set_option linter.unusedVariables false
set_option maxRecDepth 100000
attribute [local irreducible] wpList OK Code.wp
set_option maxHeartbeats 4000000 in
theorem way_c {E w : World} {R : List Hp} (hH : Has E w [R]) {v : Value} {l : List (Int × Int)} (hv : Sl R 2 v l.length (l.flatMap tmC)) (hl : l.length ≤ 1000) (a to : Int) :
    Calls Try.prog 16 #[v, (.int .i64 a), (.int .i64 to)] w fun e w' => ∃ v' hs', e = .returned v' ∧ Sl hs' 1 v' (rwayS l a to).length ((rwayS l a to).map iV) ∧ Has E w' [hs', R] := by
  have hn_ := hv.le
  refine c_enter (args := [v, (.int .i64 a), (.int .i64 to)]) Try.func16 rfl Try.ntmps16 (by simp) ?_
  refine wp_seq_k fun K1 hK1 => ?_
  refine c_region ?_
  refine s_op (o_assign (v := (.slice none 0 0)) rfl ?_)
  refine s_nil ?_
  refine t_norm (hK1 _ _ ?_)
  refine wp_seq_k fun K2 hK2 => ?_
  refine c_region ?_
  refine s_op (o_alloc (cs := #[(.slice none 0 0)]) ti45 rfl hH fun b3 w4 hH5 => ?_)
  refine s_nil ?_
  refine t_norm (hK2 _ _ ?_)
  refine wp_seq_k fun K6 hK6 => ?_
  refine wp_seq_k fun K7 hK7 => ?_
  refine c_region ?_
  refine s_op (o_move (v := (.int .i64 a)) rfl ?_)
  refine s_op (o_buildSlice (ps := #[(0, (.int .i64 a))]) (cells := #[(.int .i64 a)]) Try.underlying23 ti3 (by decide) (parts1 rfl) (by kernel_rfl) hH5 fun b8 w9 hH10 => ?_)
  refine s_op (o_buildSlice (ps := #[(0, (.slice (some ⟨b8, 0, none⟩) 1 1))]) (cells := #[(.slice (some ⟨b8, 0, none⟩) 1 1)]) Try.underlying48 ti23 (by decide) (parts1 rfl) (by kernel_rfl) hH10 fun b11 w12 hH13 => ?_)
  refine s_op (o_assign (v := (.slice (some ⟨b11, 0, none⟩) 1 1)) rfl ?_)
  refine s_nil ?_
  refine t_norm (hK7 _ _ ?_)
  refine wp_block ?_
  let I15 : Nat → (Nat → Value) → World → Prop := fun n__ r__ w__ => ∃ (va : Value) (ha : List Hp) (cur : List Int) (vt : Value) (ht : List Hp) (qs : List ((Option Addr × Nat) × List Int)) (pool : List Hp), n__ = 2 * (l.length - cur.length) + qs.length ∧ Has E w__ [ht, pool, ha, [Hp.one b3 (.cells #[va] 45 (0, 0))], R] ∧ (Own 3 1 va cur.length (cur.map iV) ha) ∧ (OwnW 23 vt qs.length (qs.map wyV) ht) ∧ (∀ q ∈ qs, Sl pool 1 (wyV q) q.2.length (q.2.map iV)) ∧ (BI l a to cur (qs.map Prod.snd)) ∧ (2 * (l.length - cur.length) + qs.length ≤ 2001) ∧ r__ 0 = v ∧ r__ 1 = (.int .i64 a) ∧ r__ 2 = (.int .i64 to) ∧ r__ 7 = (.pointer (some ⟨b3, 0, none⟩)) ∧ r__ 8 = vt
  have hH16 : Has E w12 [[Hp.one b11 (.cells #[(.slice (some ⟨b8, 0, none⟩) 1 1)] 23 (0, 0))], [Hp.one b8 (.cells #[(.int .i64 a)] 3 (0, 0))], [], [Hp.one b3 (.cells #[(.slice none 0 0)] 45 (0, 0))], R] := (((Has.nil ((hH13.front 3 rfl).front 3 rfl)).front 4 rfl).front 4 rfl).first 5 rfl
  refine c_loop I15 _ ⟨(.slice none 0 0), [], [], (.slice (some ⟨b11, 0, none⟩) 1 1), [Hp.one b11 (.cells #[(.slice (some ⟨b8, 0, none⟩) 1 1)] 23 (0, 0))], [((some ⟨b8, 0, none⟩, 1), [a])], [Hp.one b8 (.cells #[(.int .i64 a)] 3 (0, 0))], rfl, hH16, Own.nil 3 1, OwnW.of (Own.lit (n := 1) rfl (by decide)), fun q hq => by rw [List.mem_singleton.1 hq]; exact (sl_lit (f := iV) (l := [a]) rfl rfl (by simp)), BI.start l a to, (by simp only [List.length_nil, List.length_singleton]; omega), rfl, rfl, rfl, rfl, rfl⟩ ?_
  rintro n_ r19 w17 ⟨va, ha, cur, vt, ht, qs, pool, rfl, hH18, hoa, hwt, hq, hbi, hmm, e14_0, e14_1, e14_2, e14_7, e14_8⟩
  have hcl := hbi.from
  refine wp_seq_k fun K20 hK20 => ?_
  refine wp_seq_k fun K21 hK21 => ?_
  refine c_region ?_
  refine s_op (o_move (v := vt) e14_8 ?_)
  refine s_op (o_lenS Try.underlying48 rfl hwt.sl ?_)
  refine s_op (o_gtr (a := ((qs.length : Nat) : Int)) (b := 0) rfl rfl ?_)
  refine s_nil ?_
  refine t_norm (hK21 _ _ ?_)
  refine c_cond rfl (fun h22 => ?_) (fun h22 => ?_)
  · -- 0 < ((qs.length : Nat) : Int)
    obtain ⟨x0, hx0⟩ : ∃ x_, qs[((0 : Int)).toNat]? = some x_ := get_some (by omega)
    have hqs_ : qs = x0 :: qs.drop 1 := head_drop hx0
    have hbj0 : BJ l a to x0.2 [] cur ((qs.drop 1).map Prod.snd) := (by rw [hqs_, List.map_cons] at hbi; exact hbi.open)
    have hx0l : 1 ≤ x0.2.length := wy_pos (hbj0.wy _ (by simp))
    have hx0m := hbj0.len x0.2 (by simp)
    refine wp_skip ?_
    refine t_norm (hK20 _ _ ?_)
    refine wp_seq_k fun K23 hK23 => ?_
    refine wp_block ?_
    refine wp_seq_k fun K24 hK24 => ?_
    refine c_region ?_
    refine s_op (o_move (v := vt) e14_8 ?_)
    refine s_op (o_index1 Try.underlying48 ti23 rfl hwt.sl rfl (by omega) hx0 fun b25 o26 hc27 => ?_)
    refine s_op (o_load1 (v := (wyV x0)) Try.underlying23 rfl rfl hH18 (seg_sub 0 rfl) hc27 ?_)
    refine s_op (o_assign (v := (wyV x0)) rfl ?_)
    refine s_nil ?_
    refine t_norm (hK24 _ _ ?_)
    refine wp_seq_k fun K28 hK28 => ?_
    refine c_region ?_
    refine s_op (o_move (v := v) e14_0 ?_)
    refine s_op (o_move (v := (wyV x0)) rfl ?_)
    refine s_op (o_move (v := (wyV x0)) rfl ?_)
    refine s_op (o_lenS Try.underlying23 rfl (hq _ (List.mem_of_getElem? hx0)) ?_)
    refine s_op (o_sub (a := ((x0.2.length : Nat) : Int)) (b := 1) rfl rfl (w64 (by omega) (by omega)) ?_)
    obtain ⟨x32, hx33⟩ : ∃ x_, x0.2[(((x0.2.length : Nat) : Int) - 1).toNat]? = some x_ := get_some (by omega)
    refine s_op (o_index1 Try.underlying23 ti3 rfl (hq _ (List.mem_of_getElem? hx0)) rfl (by omega) hx33 fun b29 o30 hc31 => ?_)
    refine s_op (o_load1 (v := (.int .i64 x32)) Try.underlying3 rfl rfl hH18 (seg_sub 1 rfl) hc31 ?_)
    refine s_op (o_buildSlice (ps := #[(0, (.int .i64 x32))]) (cells := #[(.int .i64 x32)]) Try.underlying23 ti3 (by decide) (parts1 rfl) (by kernel_rfl) hH18 fun b34 w35 hH36 => ?_)
    refine s_op (o_callf (vs := #[v, (.slice (some ⟨b34, 0, none⟩) 1 1)]) ca10 rfl (args2 rfl rfl) (next_c hH36.all (l := l) (hv.mono (seg_sub 5 rfl)) (by omega) (fr := [x32]) ((sl_lit (f := iV) (l := [x32]) rfl rfl (by simp)).mono (seg_sub 0 rfl))) ?_)
    rintro _ w42 ⟨v37, s38, rfl, ho39, hX40⟩
    refine ⟨_, rfl, ?_⟩
    have hH41 : Has E w42 [s38, [Hp.one b34 (.cells #[(.int .i64 x32)] 3 (0, 0))], ht, pool, ha, [Hp.one b3 (.cells #[va] 45 (0, 0))], R] := hX40.of_all1
    refine s_op (o_lenS Try.underlying23 rfl ho39.sl ?_)
    refine s_op (o_move (v := (.int .i64 0)) rfl ?_)
    refine s_nil ?_
    refine t_norm (hK28 _ _ ?_)
    refine wp_block ?_
    have hy_ : x0.2.getLast? = some x32 := (by rw [List.getLast?_eq_getElem?, ← show ((x0.2.length : Int) - 1).toNat = x0.2.length - 1 from (by omega)]; exact hx33)
    have hnl := nextS_len l [x32]
    let I44 : Nat → (Nat → Value) → World → Prop := fun n__ r__ w__ => ∃ (i : Nat) (vb : Value) (hb : List Hp) (cur2 : List Int) (vt2 : Value) (ht2 : List Hp) (qs2 : List ((Option Addr × Nat) × List Int)) (pool2 : List Hp), n__ = (nextS l [x32]).length - i ∧ Has E w__ [ht2, pool2, hb, [Hp.one b3 (.cells #[vb] 45 (0, 0))], s38, R] ∧ (i ≤ (nextS l [x32]).length) ∧ (Own 3 1 vb cur2.length (cur2.map iV) hb) ∧ (OwnW 23 vt2 qs2.length (qs2.map wyV) ht2) ∧ (∀ q ∈ qs2, Sl pool2 1 (wyV q) q.2.length (q.2.map iV)) ∧ (Sl pool2 1 (wyV x0) x0.2.length (x0.2.map iV)) ∧ (1 ≤ qs2.length) ∧ (BJ l a to x0.2 ((nextS l [x32]).take i) cur2 ((qs2.drop 1).map Prod.snd)) ∧ (2 * (l.length - cur2.length) + qs2.length ≤ 2 * (l.length - cur.length) + qs.length ∧ cur.length ≤ cur2.length) ∧ r__ 0 = v ∧ r__ 1 = (.int .i64 a) ∧ r__ 2 = (.int .i64 to) ∧ r__ 7 = (.pointer (some ⟨b3, 0, none⟩)) ∧ r__ 8 = vt2 ∧ r__ 9 = (wyV x0) ∧ r__ 17 = (.bool (decide (0 < ((qs.length : Nat) : Int)))) ∧ r__ 31 = v37 ∧ r__ 32 = (.int .i64 (((nextS l [x32]).length : Nat) : Int)) ∧ r__ 33 = (.int .i64 (i : Int))
    have hH45 : Has E w42 [ht, pool, ha, [Hp.one b3 (.cells #[va] 45 (0, 0))], s38, R] := Has.pick hH41 [2, 2, 2, 2, 0, 1] (by kernel_rfl)
    refine c_loop I44 _ ⟨0, va, ha, cur, vt, ht, qs, pool, rfl, hH45, Nat.zero_le _, hoa, hwt, hq, hq _ (List.mem_of_getElem? hx0), (by omega), hbj0, ⟨Nat.le_refl _, Nat.le_refl _⟩, e14_0, e14_1, e14_2, e14_7, e14_8, rfl, rfl, rfl, rfl, rfl⟩ ?_
    rintro n_ r48 w46 ⟨i, vb, hb, cur2, vt2, ht2, qs2, pool2, rfl, hH47, hi, hob, hwt2, hq2, hw2, hq1, hbj, hmi, e43_0, e43_1, e43_2, e43_7, e43_8, e43_9, e43_17, e43_31, e43_32, e43_33⟩
    have hcl2 := hbj.from
    refine wp_seq_k fun K49 hK49 => ?_
    refine c_region ?_
    refine s_op (o_lss (a := (i : Int)) (b := (((nextS l [x32]).length : Nat) : Int)) e43_33 e43_32 ?_)
    refine s_nil ?_
    refine t_norm (hK49 _ _ ?_)
    refine wp_seq_k fun K50 hK50 => ?_
    refine c_cond rfl (fun h51 => ?_) (fun h51 => ?_)
    · -- (i : Int) < (((nextS l [x32]).length : Nat) : Int)
      refine wp_skip ?_
      refine t_norm (hK50 _ _ ?_)
      refine wp_seq_k fun K52 hK52 => ?_
      refine wp_block ?_
      refine wp_seq_k fun K53 hK53 => ?_
      refine c_region ?_
      obtain ⟨x57, hx58⟩ : ∃ x_, (nextS l [x32])[((i : Int)).toNat]? = some x_ := get_some (by omega)
      refine s_op (o_index1 Try.underlying23 ti3 e43_31 ho39.sl e43_33 (by omega) hx58 fun b54 o55 hc56 => ?_)
      refine s_op (o_load1 (v := (.int .i64 x57)) Try.underlying3 rfl rfl hH47 (seg_sub 4 rfl) hc56 ?_)
      refine s_op (o_assign (v := (.int .i64 x57)) rfl ?_)
      refine s_nil ?_
      refine t_norm (hK53 _ _ ?_)
      refine wp_seq_k fun K59 hK59 => ?_
      refine wp_seq_k fun K60 hK60 => ?_
      refine c_region ?_
      refine s_op (o_move (v := (.int .i64 x57)) rfl ?_)
      refine s_op (o_move (v := (.int .i64 to)) e43_2 ?_)
      refine s_op (o_eql (a := x57) (b := to) rfl rfl ?_)
      refine s_nil ?_
      refine t_norm (hK60 _ _ ?_)
      refine c_cond rfl (fun h61 => ?_) (fun h61 => ?_)
      · -- x57 = to
        refine wp_seq_k fun K62 hK62 => ?_
        refine c_region ?_
        refine s_op (o_move (v := (wyV x0)) e43_9 ?_)
        refine s_op (o_assign (v := (wyV x0)) rfl ?_)
        refine s_nil ?_
        refine t_norm (hK62 _ _ ?_)
        refine wp_ret ?_
        refine t_ret (b_ret (t_ret (t_ret (b_ret (b_ret (t_ret (t_ret (b_ret (t_ret (c_ret1 Try.results16  (v := (wyV x0)) rfl ?_))))))))))
        have hH63 : Has E w46 [pool2, R] := ((hH47.front 5 rfl).front 2 rfl).first 2 rfl
        have hr_ := hbj.ret hy_ (by rw [← h61]; exact List.mem_of_getElem? hx58)
        exact ⟨_, _, rfl, by rw [← hr_]; exact hw2, hH63⟩
      · -- not: x57 = to
        refine wp_skip ?_
        refine t_norm (hK59 _ _ ?_)
        refine wp_seq_k fun K64 hK64 => ?_
        refine c_region ?_
        refine s_op (o_move (v := (.int .i64 x57)) rfl ?_)
        refine s_op (o_buildSlice (ps := #[(0, (.int .i64 x57))]) (cells := #[(.int .i64 x57)]) Try.underlying23 ti3 (by decide) (parts1 rfl) (by kernel_rfl) hH47 fun b65 w66 hH67 => ?_)
        refine s_op (o_callf (vs := #[(.pointer (some ⟨b3, 0, none⟩)), (.slice (some ⟨b65, 0, none⟩) 1 1)]) ca22 rfl (args2 e43_7 rfl) (add_c ((hH67.front 4 rfl).front 4 rfl).all2 hob hbj.sorted ((sl_lit (f := iV) (l := [x57]) rfl rfl (by simp)).mono (seg_sub 0 rfl)) (by simp only [List.length_cons, List.length_nil]; omega)) ?_)
        rintro _ w77 ⟨v68, s69, now70, rfl, ho71, hso72, hm73, hX75⟩
        refine ⟨_, rfl, ?_⟩
        have hH76 : Has E w77 [s69, [Hp.one b3 (.cells #[v68] 45 (0, 0))], [Hp.one b65 (.cells #[(.int .i64 x57)] 3 (0, 0))], ht2, pool2, s38, R] := hX75.of_all2
        obtain rfl := set_with hbj.sorted hso72 hm73
        refine s_op (o_gtr (a := ((withS x57 false cur2).length : Int) - (cur2.length : Int)) (b := 0) rfl rfl ?_)
        refine s_nil ?_
        refine t_norm (hK64 _ _ ?_)
        refine c_cond rfl (fun h78 => ?_) (fun h78 => ?_)
        · -- 0 < ((withS x57 false cur2).length : Int) - (cur2.length : Int)
          have hcn_ := (hbj.sub_len (show (nextS l [x32])[i]? = some _ from hx58))
          refine c_region ?_
          refine s_op (o_move (v := vt2) e43_8 ?_)
          refine s_op (o_move (v := (wyV x0)) e43_9 ?_)
          refine s_op (o_callf (vs := #[(wyV x0)]) ca24 rfl (args1 rfl) (clone_o hH76.all (l := x0.2) (hw2.mono (seg_sub 4 rfl)) (by omega)) ?_)
          rintro _ w84 ⟨v79, s80, rfl, ho81, hX82⟩
          refine ⟨_, rfl, ?_⟩
          have hH83 : Has E w84 [s80, s69, [Hp.one b3 (.cells #[v68] 45 (0, 0))], [Hp.one b65 (.cells #[(.int .i64 x57)] 3 (0, 0))], ht2, pool2, s38, R] := hX82.of_all1
          refine s_op (o_move (v := (.int .i64 x57)) rfl ?_)
          refine s_op (o_buildSlice (ps := #[(0, (.int .i64 x57))]) (cells := #[(.int .i64 x57)]) Try.underlying23 ti3 (by decide) (parts1 rfl) (by kernel_rfl) hH83 fun b85 w86 hH87 => ?_)
          refine s_op (o_append Try.underlying23 ti3 rfl (by decide) rfl ho81 rfl (sl_lit (f := iV) (l := [x57]) rfl rfl (by simp)) (hH87.front 1 rfl) (seg_sub 0 rfl) (one_iV _) (by first | omega | (simp; omega)) (by first | omega | (simp; omega)) fun v88 s89 w91 ho90 hH92 => ?_)
          have ho90 : Own 3 1 v88 (x0.2 ++ [x57]).length ((x0.2 ++ [x57]).map iV) s89 := ho90.app
          obtain ⟨p93, c94, rfl⟩ := (Own.sl ho90).form
          refine s_op (o_buildSlice (ps := #[(0, (.slice p93 (x0.2 ++ [x57]).length c94))]) (cells := #[(.slice p93 (x0.2 ++ [x57]).length c94)]) Try.underlying48 ti23 (by decide) (parts1 rfl) (by kernel_rfl) hH92 fun b95 w96 hH97 => ?_)
          refine s_op (o_wappend Try.underlying48 ti23 rfl rfl hwt2 rfl (sl_lit (f := wyV) (l := [((p93, c94), x0.2 ++ [x57])]) rfl rfl (by simp)) (hH97.front 6 rfl) (seg_sub 0 rfl) (one_wyV _) (by first | omega | (simp; omega)) (by first | omega | (simp; omega)) fun v98 s99 w102 ho100 hH103 => ?_)
          have ho101 : OwnW 23 v98 (qs2 ++ [((p93, c94), x0.2 ++ [x57])]).length ((qs2 ++ [((p93, c94), x0.2 ++ [x57])]).map wyV) s99 := by rw [List.length_append, List.map_append]; exact ho100
          refine s_op (o_assign (v := v98) rfl ?_)
          refine s_nil ?_
          refine b_norm ?_
          refine t_norm (hK52 _ _ ?_)
          refine c_region ?_
          refine s_op (o_add (a := (i : Int)) (b := 1) e43_33 rfl (w64 (by omega) (by omega)) ?_)
          refine s_op (o_move (v := (.int .i64 ((i : Int) + 1))) rfl ?_)
          refine s_nil ?_
          have hH104 := Has.glue ((hH103.front 7 rfl).front 3 rfl)
          have hH105 : Has E w102 [s99, (s89 ++ pool2), s69, [Hp.one b3 (.cells #[v68] 45 (0, 0))], s38, R] := Has.pick hH104 [1, 0, 2, 2, 3, 3] (by kernel_rfl)
          refine t_norm ⟨(nextS l [x32]).length - (i + 1), _, rfl, ?_, ?_⟩
          · omega
          · exact ⟨(i + 1), v68, s69, (withS x57 false cur2), v98, s99, (qs2 ++ [((p93, c94), x0.2 ++ [x57])]), (s89 ++ pool2), rfl, hH105, (by omega), (ho71), (ho101), (fun q hq => (List.mem_append.1 hq).elim (fun g => (hq2 q g).mono (List.subset_append_right _ _)) (fun g => by rw [List.mem_singleton.1 g]; exact (Own.sl ho90).mono (List.subset_append_left _ _))), (hw2.mono (List.subset_append_right _ _)), (by rw [List.length_append]; omega), (by rw [List.drop_append_of_le_length hq1, List.map_append]; exact hbj.step hy_ (show (nextS l [x32])[i]? = some _ from hx58) h61 (.inr ⟨rfl, (with_new hbj.sorted h78).1⟩)), (by have h8_ := (with_new hbj.sorted h78).2; have h9_ := hcn_; rw [List.length_append, List.length_singleton]; omega), e43_0, e43_1, e43_2, e43_7, rfl, e43_9, e43_17, e43_31, e43_32, rfl⟩
        · -- not: 0 < ((withS x57 false cur2).length : Int) - (cur2.length : Int)
          refine wp_skip ?_
          refine b_norm ?_
          refine t_norm (hK52 _ _ ?_)
          refine c_region ?_
          refine s_op (o_add (a := (i : Int)) (b := 1) e43_33 rfl (w64 (by omega) (by omega)) ?_)
          refine s_op (o_move (v := (.int .i64 ((i : Int) + 1))) rfl ?_)
          refine s_nil ?_
          have hH106 : Has E w77 [ht2, pool2, s69, [Hp.one b3 (.cells #[v68] 45 (0, 0))], s38, R] := Has.pick hH76 [3, 3, 0, 0, 1, 1] (by kernel_rfl)
          refine t_norm ⟨(nextS l [x32]).length - (i + 1), _, rfl, ?_, ?_⟩
          · omega
          · exact ⟨(i + 1), v68, s69, (withS x57 false cur2), vt2, ht2, qs2, pool2, rfl, hH106, (by omega), (ho71), (hwt2), (hq2), (hw2), (hq1), (by have h_ := hbj.step hy_ (show (nextS l [x32])[i]? = some _ from hx58) h61 (.inl ⟨rfl, with_old hbj.sorted h78⟩); rwa [List.append_nil] at h_), (by have h8_ := (withS_len x57 cur2 hbj.sorted).1; rw [if_pos (with_old hbj.sorted h78)] at h8_; omega), e43_0, e43_1, e43_2, e43_7, e43_8, e43_9, e43_17, e43_31, e43_32, rfl⟩
    · -- not: (i : Int) < (((nextS l [x32]).length : Nat) : Int)
      refine wp_exit ?_
      refine t_exit (t_exit (x_in (?_)))
      refine b_norm ?_
      refine t_norm (hK23 _ _ ?_)
      refine c_region ?_
      refine s_op (o_move (v := vt2) e43_8 ?_)
      refine s_op (o_wdrop (i := 1) Try.underlying48 ti23 rfl hwt2 rfl (by omega) (by first | omega | (simp only [List.length_append]; omega)) fun v107 ho108 => ?_)
      have ho109 : OwnW 23 v107 (qs2.drop 1).length ((qs2.drop 1).map wyV) ht2 := by rw [List.length_drop, List.map_drop]; exact ho108
      refine s_op (o_assign (v := v107) rfl ?_)
      refine s_nil ?_
      have hH110 : Has E w46 [ht2, pool2, hb, [Hp.one b3 (.cells #[vb] 45 (0, 0))], R] := (((((hH47.front 5 rfl).front 4 rfl).front 4 rfl).front 4 rfl).front 4 rfl).first 5 rfl
      refine t_norm ⟨2 * (l.length - cur2.length) + (qs2.drop 1).length, _, rfl, ?_, ?_⟩
      · rw [List.length_drop]; omega
      · exact ⟨vb, hb, cur2, v107, ht2, (qs2.drop 1), pool2, rfl, hH110, (hob), (ho109), (fun q hq => hq2 q (List.mem_of_mem_drop hq)), (by rw [List.take_of_length_le (by omega)] at hbj; exact hbj.done hy_), (by rw [List.length_drop]; omega), e43_0, e43_1, e43_2, e43_7, rfl⟩
  · -- not: 0 < ((qs.length : Nat) : Int)
    have hnone := hbi.none (by rw [List.length_map]; omega)
    refine wp_exit ?_
    refine t_exit (t_exit (x_in (?_)))
    refine t_norm (hK6 _ _ ?_)
    refine wp_seq_k fun K111 hK111 => ?_
    refine c_region ?_
    refine s_op (o_assign (v := (.slice none 0 0)) rfl ?_)
    refine s_nil ?_
    refine t_norm (hK111 _ _ ?_)
    refine wp_ret ?_
    refine c_ret1 Try.results16  (v := (.slice none 0 0)) rfl ?_
    have hH112 : Has E w17 [R] := (hH18.front 4 rfl).first 1 rfl
    exact ⟨_, _, rfl, by rw [hnone]; exact sl_nil (L := []) 1, Has.nil hH112⟩
end Go.Q
