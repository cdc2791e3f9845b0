/-
  Parts of a walk: what functions of the program compute, each told by a theorem.
-/
import Derived.Test.YtlaieipebmkebaaQPA
import Derived.Test.YtlaieipebmkebaaQF4
import Derived.Test.YtlaieipebmkebaaQApp
set_option linter.unusedVariables false
set_option linter.unusedSimpArgs false
namespace Go.Q
open Go.Proofs
set_option linter.unusedVariables false
set_option maxRecDepth 100000
attribute [local irreducible] wpList OK Code.wp
set_option maxHeartbeats 4000000 in
theorem GraphMore_c {E w : World} {R : List Hp} (hH : Has E w [R]) {v : Value} {l : List (Int × Int)} (hv : Sl R 2 v l.length (l.flatMap tmC)) (e_ : Int × Int) (a to : Int) :
    Calls Try.prog 6 #[v, (.agg #[(.int .i64 e_.1), (.int .i64 e_.2)]), (.int .i64 a), (.int .i64 to)] w fun e w' => e = .returned (.bool true) ∧ Has E w' [R] := by
  have hn_ := hv.le
  refine c_enter (args := [v, (.agg #[(.int .i64 e_.1), (.int .i64 e_.2)]), (.int .i64 a), (.int .i64 to)]) Try.func6 rfl Try.ntmps6 (by simp) ?_
  refine wp_seq_k fun K1 hK1 => ?_
  refine c_region ?_
  refine s_op (o_box (cs := #[(.int .i64 e_.1), (.int .i64 e_.2)]) rfl rfl hH fun b2 w3 hH4 => ?_)
  refine s_op (o_assign (v := (.bool false)) rfl ?_)
  refine s_nil ?_
  refine t_norm (hK1 _ _ ?_)
  refine wp_seq_k fun K5 hK5 => ?_
  refine wp_seq_k fun K6 hK6 => ?_
  refine c_region ?_
  refine s_op (o_move (v := v) rfl ?_)
  refine s_op (o_lenS Try.underlying22 rfl hv ?_)
  refine s_op (o_gtr (a := ((l.length : Nat) : Int)) (b := 30) rfl rfl ?_)
  refine s_nil ?_
  refine t_norm (hK6 _ _ ?_)
  refine c_cond rfl (fun h7 => ?_) (fun h7 => ?_)
  · -- 30 < ((l.length : Nat) : Int)
    refine wp_seq_k fun K8 hK8 => ?_
    refine c_region ?_
    refine s_op (o_callf (vs := #[]) ca8 rfl (args0) (awake15_c hH4.all) ?_)
    rintro _ w11 ⟨rfl, hX9⟩
    refine ⟨_, rfl, ?_⟩
    have hH10 := hX9.of_all
    refine s_op (o_assign (v := (.bool true)) rfl ?_)
    refine s_nil ?_
    refine t_norm (hK8 _ _ ?_)
    refine wp_ret ?_
    refine t_ret (c_ret1 Try.results6  (v := (.bool true)) rfl ?_)
    have hH12 : Has E w11 [R] := (hH10.front 1 rfl).first 1 rfl
    exact ⟨rfl, hH12⟩
  · -- not: 30 < ((l.length : Nat) : Int)
    have hl30 : l.length ≤ 30 := by omega
    have hml : (l ++ [(e_.1, e_.2)]).length ≤ 31 := by rw [List.length_append, List.length_singleton]; omega
    refine wp_skip ?_
    refine t_norm (hK5 _ _ ?_)
    refine wp_seq_k fun K13 hK13 => ?_
    refine c_flow4 [[Hp.one b2 (.cells #[(.int .i64 e_.1), (.int .i64 e_.2)] 42 (0, 0))], R] (fun i_ => match i_ with | _ => []) (fun i_ v_ h_ m_ => match i_ with | 0 => ∃ (b14 : Nat), v_ = (.slice (some ⟨b14, 0, none⟩) 0 0) ∧ h_ = [Hp.one b14 (.cells #[] 42 (0, 0))] | 1 => v_ = v ∧ h_ = [] | 2 => ∃ (v17 : Value) (s18 : List Hp), v_ = v17 ∧ h_ = s18 ∧ (OwnP 42 2 v17 l.length (l.flatMap tmC) s18) | 3 => v_ = (.agg #[(.int .i64 e_.1), (.int .i64 e_.2)]) ∧ h_ = [] | 4 => ∃ (b22 : Nat), v_ = (.slice (some ⟨b22, 0, none⟩) 1 1) ∧ h_ = [Hp.one b22 (.cells #[(.int .i64 e_.1), (.int .i64 e_.2)] 42 (0, 0))] | _ => True) mixed 5 (by kernel_rfl) (by decide) (by kernel_rfl) (flow_has (cs := []) hH4 rfl) ?_ ?_
    · intro i_ o_ him_ ho_ r' w' G hs_ ht
      match i_, ho_, him_ with
      | 0, ho_, him_ =>
        obtain rfl := Option.some.inj ho_
        have hG := ht.has.drop
        refine GOK.free rfl ?_
        refine o_buildSlice (ps := #[]) (cells := #[]) Try.underlying22 ti42 (by decide) (parts0) (by kernel_rfl) hG fun b14 w15 hH16 => ?_
        exact ⟨_, ⟨b14, rfl, rfl⟩, hH16⟩
      | 1, ho_, him_ =>
        obtain rfl := Option.some.inj ho_
        have e0 : r' 0 = v := ht.was 0 (by kernel_rfl)
        have hG := ht.has.drop
        refine GOK.free rfl ?_
        refine o_move (v := v) e0 ?_
        exact ⟨_, ⟨rfl, rfl⟩, hG⟩
      | 2, ho_, him_ =>
        obtain rfl := Option.some.inj ho_
        obtain ⟨b14, e19, eh0⟩ := (ht.done 0 _ rfl rfl).1
        obtain ⟨e20, eh1⟩ := (ht.done 1 _ rfl rfl).1
        have hG := ht.has.drop
        refine GOK.free rfl ?_
        refine o_append_z Try.underlying22 ti42 rfl (by decide) e19 e20 hv hG (ht.fr R (by simp)) (by first | omega | (simp; done) | (simp; omega)) (by first | omega | (simp; done) | (simp; omega)) fun v17 s18 w20 ho19 hH21 => ?_
        exact ⟨_, ⟨v17, s18, rfl, rfl, ho19⟩, hH21⟩
      | 3, ho_, him_ =>
        obtain rfl := Option.some.inj ho_
        have e5 : r' 5 = (.pointer (some ⟨b2, 0, none⟩)) := ht.was 5 (by kernel_rfl)
        have hG := ht.has.drop
        refine GOK.free rfl ?_
        refine o_loadN (cs := [(.int .i64 e_.1), (.int .i64 e_.2)]) Try.underlying42 rfl ti42 e5 hG (ht.fr [Hp.one b2 (.cells #[(.int .i64 e_.1), (.int .i64 e_.2)] 42 (0, 0))] (by simp)) (CellsAt.one rfl) ?_
        exact ⟨_, ⟨rfl, rfl⟩, hG⟩
      | 4, ho_, him_ =>
        obtain rfl := Option.some.inj ho_
        obtain ⟨e22, eh3⟩ := (ht.done 3 _ rfl rfl).1
        have hG := ht.has.drop
        refine GOK.free rfl ?_
        refine o_buildSlice (ps := #[(0, (.agg #[(.int .i64 e_.1), (.int .i64 e_.2)]))]) (cells := #[(.int .i64 e_.1), (.int .i64 e_.2)]) Try.underlying22 ti42 (by decide) (parts1 e22) (by kernel_rfl) hG fun b22 w23 hH24 => ?_
        exact ⟨_, ⟨b22, rfl, rfl⟩, hH24⟩
      | i_ + 5, ho_, him_ => exact absurd him_ (by omega)
    · intro vs25 hs26 w27 hT28 hC_ hH29
      obtain ⟨b14, e0_, eh0_⟩ := hT28 0 _ (by decide) rfl
      obtain ⟨e1_, eh1_⟩ := hT28 1 _ (by decide) rfl
      obtain ⟨v17, s18, e2_, eh2_, ho19⟩ := hT28 2 _ (by decide) rfl
      obtain ⟨e3_, eh3_⟩ := hT28 3 _ (by decide) rfl
      obtain ⟨b22, e4_, eh4_⟩ := hT28 4 _ (by decide) rfl
      have hH30 : Has E w27 ([[Hp.one b2 (.cells #[(.int .i64 e_.1), (.int .i64 e_.2)] 42 (0, 0))], R] ++ [[Hp.one b14 (.cells #[] 42 (0, 0))], s18, [Hp.one b22 (.cells #[(.int .i64 e_.1), (.int .i64 e_.2)] 42 (0, 0))]]) := flow_back (cs := [[Hp.one b14 (.cells #[] 42 (0, 0))], s18, [Hp.one b22 (.cells #[(.int .i64 e_.1), (.int .i64 e_.2)] 42 (0, 0))]]) hH29 (by show (hs26 0 ++ (hs26 1 ++ (hs26 2 ++ (hs26 3 ++ (hs26 4 ++ (hs26 5 ++ (hs26 6 ++ []))))))) = _; rw [eh0_, eh1_, eh2_, eh3_, eh4_, hC_ 5 (by decide) (by decide), hC_ 6 (by decide) (by decide)]; rfl)
      generalize hr32 : puts vs25 _ 0 _ = r31
      have e33_0 : r31 0 = v := by rw [← hr32]; exact rfl
      have e33_1 : r31 1 = (.agg #[(.int .i64 e_.1), (.int .i64 e_.2)]) := by rw [← hr32]; exact rfl
      have e33_2 : r31 2 = (.int .i64 a) := by rw [← hr32]; exact rfl
      have e33_3 : r31 3 = (.int .i64 to) := by rw [← hr32]; exact rfl
      have e33_5 : r31 5 = (.pointer (some ⟨b2, 0, none⟩)) := by rw [← hr32]; exact rfl
      have e33_8 : r31 8 = (.bool false) := by rw [← hr32]; exact rfl
      have e33_17 : r31 17 = (.bool (decide (30 < ((l.length : Nat) : Int)))) := by rw [← hr32]; exact rfl
      have e33_21 : r31 21 = v17 := by rw [← hr32]; exact e2_
      have e33_23 : r31 23 = (.slice (some ⟨b22, 0, none⟩) 1 1) := by rw [← hr32]; exact e4_
      refine s_op (o_appendP Try.underlying22 ti42 rfl (by decide) e33_21 ho19 e33_23 (sl_litF (f := tmC) (l := [(e_.1, e_.2)]) tmC_len rfl rfl (by simp)) (hH30.front 3 rfl) (seg_sub 3 rfl) (one_tm _) (by first | omega | (simp; done) | (simp; omega)) (by first | omega | (simp; done) | (simp; omega)) (by first | decide | omega | (simp; done) | (simp; omega)) fun v34 s35 w37 ho36 hH38 => ?_)
      have ho36 : Own 42 2 v34 (l ++ [(e_.1, e_.2)]).length ((l ++ [(e_.1, e_.2)]).flatMap tmC) s35 := ho36.appF
      refine s_op (o_assign (v := v34) rfl ?_)
      refine s_nil ?_
      refine t_norm (hK13 _ _ ?_)
      refine wp_seq_k fun K39 hK39 => ?_
      refine c_region ?_
      refine s_op (o_move (v := v) e33_0 ?_)
      refine s_op (o_move (v := (.int .i64 a)) e33_2 ?_)
      refine s_op (o_buildSlice (ps := #[(0, (.int .i64 a))]) (cells := #[(.int .i64 a)]) Try.underlying23 ti3 (by decide) (parts1 rfl) (by kernel_rfl) hH38 fun b40 w41 hH42 => ?_)
      refine s_op (o_callf (vs := #[v, (.slice (some ⟨b40, 0, none⟩) 1 1)]) ca12 rfl (args2 rfl rfl) (reach_c hH42.all (l := l) (hv.mono (seg_sub 3 rfl)) (by omega) (fr := [a]) ((sl_lit (f := iV) (l := [a]) rfl rfl (by simp)).mono (seg_sub 0 rfl))) ?_)
      rintro _ w48 ⟨v43, s44, rfl, ho45, hX46⟩
      refine ⟨_, rfl, ?_⟩
      have hH47 : Has E w48 [s44, [Hp.one b40 (.cells #[(.int .i64 a)] 3 (0, 0))], s35, [Hp.one b2 (.cells #[(.int .i64 e_.1), (.int .i64 e_.2)] 42 (0, 0))], R, [Hp.one b14 (.cells #[] 42 (0, 0))], [Hp.one b22 (.cells #[(.int .i64 e_.1), (.int .i64 e_.2)] 42 (0, 0))]] := hX46.of_all1
      refine s_op (o_move (v := v34) rfl ?_)
      refine s_op (o_move (v := (.int .i64 a)) e33_2 ?_)
      refine s_op (o_buildSlice (ps := #[(0, (.int .i64 a))]) (cells := #[(.int .i64 a)]) Try.underlying23 ti3 (by decide) (parts1 rfl) (by kernel_rfl) hH47 fun b49 w50 hH51 => ?_)
      refine s_op (o_callf (vs := #[v34, (.slice (some ⟨b49, 0, none⟩) 1 1)]) ca12 rfl (args2 rfl rfl) (reach_c hH51.all (l := (l ++ [(e_.1, e_.2)])) (ho36.sl.mono (seg_sub 3 rfl)) (by omega) (fr := [a]) ((sl_lit (f := iV) (l := [a]) rfl rfl (by simp)).mono (seg_sub 0 rfl))) ?_)
      rintro _ w57 ⟨v52, s53, rfl, ho54, hX55⟩
      refine ⟨_, rfl, ?_⟩
      have hH56 : Has E w57 [s53, [Hp.one b49 (.cells #[(.int .i64 a)] 3 (0, 0))], s44, [Hp.one b40 (.cells #[(.int .i64 a)] 3 (0, 0))], s35, [Hp.one b2 (.cells #[(.int .i64 e_.1), (.int .i64 e_.2)] 42 (0, 0))], R, [Hp.one b14 (.cells #[] 42 (0, 0))], [Hp.one b22 (.cells #[(.int .i64 e_.1), (.int .i64 e_.2)] 42 (0, 0))]] := hX55.of_all1
      refine s_op (o_assign (v := v43) rfl ?_)
      refine s_op (o_assign (v := v52) rfl ?_)
      refine s_nil ?_
      refine t_norm (hK39 _ _ ?_)
      refine wp_seq_k fun K58 hK58 => ?_
      refine wp_seq_k fun K59 hK59 => ?_
      refine c_region ?_
      refine s_op (o_assign (v := (.int .i64 0)) rfl ?_)
      refine s_nil ?_
      refine t_norm (hK59 _ _ ?_)
      refine wp_block ?_
      let I61 : Nat → (Nat → Value) → World → Prop := fun n__ r__ w__ => ∃ (i : Nat), n__ = (reachS l [a]).length - i ∧ Has E w__ [s53, [Hp.one b49 (.cells #[(.int .i64 a)] 3 (0, 0))], s44, [Hp.one b40 (.cells #[(.int .i64 a)] 3 (0, 0))], s35, [Hp.one b2 (.cells #[(.int .i64 e_.1), (.int .i64 e_.2)] 42 (0, 0))], R, [Hp.one b14 (.cells #[] 42 (0, 0))], [Hp.one b22 (.cells #[(.int .i64 e_.1), (.int .i64 e_.2)] 42 (0, 0))]] ∧ (i ≤ (reachS l [a]).length) ∧ r__ 0 = v ∧ r__ 1 = (.agg #[(.int .i64 e_.1), (.int .i64 e_.2)]) ∧ r__ 2 = (.int .i64 a) ∧ r__ 3 = (.int .i64 to) ∧ r__ 5 = (.pointer (some ⟨b2, 0, none⟩)) ∧ r__ 9 = v34 ∧ r__ 10 = v43 ∧ r__ 11 = v52 ∧ r__ 12 = (.int .i64 (i : Int)) ∧ r__ 17 = (.bool (decide (30 < ((l.length : Nat) : Int))))
      refine c_loop I61 _ ⟨0, rfl, hH56, Nat.zero_le _, e33_0, e33_1, e33_2, e33_3, e33_5, rfl, rfl, rfl, rfl, e33_17⟩ ?_
      rintro n_ r64 w62 ⟨i, rfl, hH63, hi, e60_0, e60_1, e60_2, e60_3, e60_5, e60_9, e60_10, e60_11, e60_12, e60_17⟩
      have hra := reach_len l [a]
      refine wp_seq_k fun K65 hK65 => ?_
      refine wp_seq_k fun K66 hK66 => ?_
      refine c_region ?_
      refine s_op (o_move (v := (.int .i64 (i : Int))) e60_12 ?_)
      refine s_op (o_move (v := v43) e60_10 ?_)
      refine s_op (o_lenS Try.underlying23 rfl ho45.sl ?_)
      refine s_op (o_lss (a := (i : Int)) (b := (((reachS l [a]).length : Nat) : Int)) rfl rfl ?_)
      refine s_nil ?_
      refine t_norm (hK66 _ _ ?_)
      refine c_cond rfl (fun h67 => ?_) (fun h67 => ?_)
      · -- (i : Int) < (((reachS l [a]).length : Nat) : Int)
        refine wp_skip ?_
        refine t_norm (hK65 _ _ ?_)
        refine wp_seq_k fun K68 hK68 => ?_
        refine wp_block ?_
        refine wp_seq_k fun K69 hK69 => ?_
        refine c_region ?_
        refine s_op (o_move (v := v52) e60_11 ?_)
        refine s_op (o_move (v := v43) e60_10 ?_)
        refine s_op (o_move (v := (.int .i64 (i : Int))) e60_12 ?_)
        obtain ⟨x73, hx74⟩ : ∃ x_, (reachS l [a])[((i : Int)).toNat]? = some x_ := get_some (by omega)
        refine s_op (o_index1 Try.underlying23 ti3 rfl ho45.sl rfl (by omega) hx74 fun b70 o71 hc72 => ?_)
        refine s_op (o_load1 (v := (.int .i64 x73)) Try.underlying3 rfl rfl hH63 (seg_sub 2 rfl) hc72 ?_)
        refine s_op (o_callf (vs := #[v52, (.int .i64 x73)]) ca20 rfl (args2 rfl rfl) (refhas_c hH63.all (l := (reachS (l ++ [(e_.1, e_.2)]) [a])) (ho54.sl.mono (seg_sub 0 rfl)) x73) ?_)
        rintro _ w77 ⟨rfl, hX75⟩
        refine ⟨_, rfl, ?_⟩
        have hH76 := hX75.of_all
        refine s_op (o_not2 (b := decide (x73 ∈ (reachS (l ++ [(e_.1, e_.2)]) [a]))) (b' := decide (¬ (x73 ∈ (reachS (l ++ [(e_.1, e_.2)]) [a])))) rfl not_dec ?_)
        refine s_nil ?_
        refine t_norm (hK69 _ _ ?_)
        refine c_cond rfl (fun h78 => ?_) (fun h78 => ?_)
        · -- ¬ (x73 ∈ (reachS (l ++ [(e_.1, e_.2)]) [a]))
          exact absurd (more_reach (List.mem_of_getElem? hx74)) h78
        · -- not: ¬ (x73 ∈ (reachS (l ++ [(e_.1, e_.2)]) [a]))
          refine wp_skip ?_
          refine b_norm ?_
          refine t_norm (hK68 _ _ ?_)
          refine c_region ?_
          refine s_op (o_move (v := (.int .i64 (i : Int))) e60_12 ?_)
          refine s_op (o_add (a := (i : Int)) (b := 1) rfl rfl (w64 (by omega) (by omega)) ?_)
          refine s_op (o_assign (v := (.int .i64 ((i : Int) + 1))) rfl ?_)
          refine s_nil ?_
          refine t_norm ⟨(reachS l [a]).length - (i + 1), _, rfl, ?_, ?_⟩
          · omega
          · exact ⟨(i + 1), rfl, hH76, (by omega), e60_0, e60_1, e60_2, e60_3, e60_5, e60_9, e60_10, e60_11, rfl, e60_17⟩
      · -- not: (i : Int) < (((reachS l [a]).length : Nat) : Int)
        refine wp_exit ?_
        refine t_exit (t_exit (x_in (?_)))
        refine t_norm (hK58 _ _ ?_)
        refine wp_seq_k fun K79 hK79 => ?_
        refine c_region ?_
        refine s_op (o_assign (v := (.slice none 0 0)) rfl ?_)
        refine s_nil ?_
        refine t_norm (hK79 _ _ ?_)
        refine wp_seq_k fun K80 hK80 => ?_
        refine wp_seq_k fun K81 hK81 => ?_
        refine c_region ?_
        refine s_op (o_assign (v := (.int .i64 0)) rfl ?_)
        refine s_nil ?_
        refine t_norm (hK81 _ _ ?_)
        refine wp_block ?_
        let I83 : Nat → (Nat → Value) → World → Prop := fun n__ r__ w__ => ∃ (k : Nat) (va : Value) (ha : List Hp) (acc : List (Int × Int)), n__ = l.length - k ∧ Has E w__ [ha, s44, R] ∧ (k ≤ l.length) ∧ (Own 42 2 va acc.length (acc.flatMap tmC) ha) ∧ (acc = backS (l.take k)) ∧ (acc.length ≤ k) ∧ r__ 0 = v ∧ r__ 1 = (.agg #[(.int .i64 e_.1), (.int .i64 e_.2)]) ∧ r__ 2 = (.int .i64 a) ∧ r__ 3 = (.int .i64 to) ∧ r__ 5 = (.pointer (some ⟨b2, 0, none⟩)) ∧ r__ 9 = v34 ∧ r__ 10 = v43 ∧ r__ 11 = v52 ∧ r__ 12 = (.int .i64 (i : Int)) ∧ r__ 13 = va ∧ r__ 14 = (.int .i64 (k : Int)) ∧ r__ 17 = (.bool (decide (30 < ((l.length : Nat) : Int)))) ∧ r__ 36 = (.bool (decide ((i : Int) < (((reachS l [a]).length : Nat) : Int))))
        have hH84 : Has E w62 [[], s44, R] := (Has.nil ((hH63.front 6 rfl).front 3 rfl)).first 3 rfl
        refine c_loop I83 _ ⟨0, (.slice none 0 0), [], [], rfl, hH84, Nat.zero_le _, Own.nil 42 2, rfl, Nat.le_refl _, e60_0, e60_1, e60_2, e60_3, e60_5, e60_9, e60_10, e60_11, e60_12, rfl, rfl, e60_17, rfl⟩ ?_
        rintro n_ r87 w85 ⟨k, va, ha, acc, rfl, hH86, hk, hoa, hacc, hal, e82_0, e82_1, e82_2, e82_3, e82_5, e82_9, e82_10, e82_11, e82_12, e82_13, e82_14, e82_17, e82_36⟩
        refine wp_seq_k fun K88 hK88 => ?_
        refine wp_seq_k fun K89 hK89 => ?_
        refine c_region ?_
        refine s_op (o_move (v := (.int .i64 (k : Int))) e82_14 ?_)
        refine s_op (o_move (v := v) e82_0 ?_)
        refine s_op (o_lenS Try.underlying22 rfl hv ?_)
        refine s_op (o_lss (a := (k : Int)) (b := ((l.length : Nat) : Int)) rfl rfl ?_)
        refine s_nil ?_
        refine t_norm (hK89 _ _ ?_)
        refine c_cond rfl (fun h90 => ?_) (fun h90 => ?_)
        · -- (k : Int) < ((l.length : Nat) : Int)
          refine wp_skip ?_
          refine t_norm (hK88 _ _ ?_)
          refine wp_seq_k fun K91 hK91 => ?_
          refine wp_block ?_
          obtain ⟨x95, hx96⟩ : ∃ x_, l[((k : Int)).toNat]? = some x_ := get_some (by omega)
          have hH108 : Has E w85 [s44, R, ha] := ((hH86.front 2 rfl).front 2 rfl).first 3 rfl
          refine c_flow2 [s44, R] (fun i_ => match i_ with | 13 => ha | _ => []) (fun i_ v_ h_ m_ => match i_ with | 0 => v_ = va ∧ h_ = [] | 1 => v_ = v ∧ h_ = [] | 2 => v_ = (.int .i64 (k : Int)) ∧ h_ = [] | 3 => ∃ (b92 : Nat) (o93 : Nat), v_ = (.pointer (some ⟨b92, o93, none⟩)) ∧ h_ = [] ∧ (CellsAt R b92 o93 [(.int .i64 x95.1), (.int .i64 x95.2)]) | 4 => ∃ (b92 : Nat) (o93 : Nat), m_ 3 = (.pointer (some ⟨b92, o93, none⟩)) ∧ v_ = (.pointer (some ⟨b92, o93 + 1, none⟩)) ∧ h_ = [] | 5 => v_ = (.int .i64 x95.2) ∧ h_ = [] | 6 => v_ = v ∧ h_ = [] | 7 => v_ = (.int .i64 (k : Int)) ∧ h_ = [] | 8 => ∃ (b97 : Nat) (o98 : Nat), v_ = (.pointer (some ⟨b97, o98, none⟩)) ∧ h_ = [] ∧ (CellsAt R b97 o98 [(.int .i64 x95.1), (.int .i64 x95.2)]) | 9 => ∃ (b97 : Nat) (o98 : Nat), m_ 8 = (.pointer (some ⟨b97, o98, none⟩)) ∧ v_ = (.pointer (some ⟨b97, o98, none⟩)) ∧ h_ = [] | 10 => v_ = (.int .i64 x95.1) ∧ h_ = [] | 11 => v_ = (.agg #[(.int .i64 x95.2), (.int .i64 x95.1)]) ∧ h_ = [] | 12 => ∃ (b100 : Nat), v_ = (.slice (some ⟨b100, 0, none⟩) 1 1) ∧ h_ = [Hp.one b100 (.cells #[(.int .i64 x95.2), (.int .i64 x95.1)] 42 (0, 0))] | 13 => ∃ (v103 : Value) (s104 : List Hp), v_ = v103 ∧ h_ = s104 ∧ (Own 42 2 v103 (acc ++ [(x95.2, x95.1)]).length ((acc ++ [(x95.2, x95.1)]).flatMap tmC) s104) | 14 => ∃ (v103 : Value), m_ 13 = v103 ∧ v_ = v103 ∧ h_ = [] | _ => True) mixed (by kernel_rfl) (flow_has (cs := [ha]) hH108 rfl) ?_ ?_
          · intro i_ o_ ho_ r' w' G hs_ ht
            match i_, ho_ with
            | 0, ho_ =>
              obtain rfl := Option.some.inj ho_
              have e13 : r' 13 = va := (ht.was 13 (by kernel_rfl)).trans e82_13
              have hG := ht.has.drop
              refine o_move (v := va) e13 ?_
              exact ⟨_, ⟨rfl, rfl⟩, hG⟩
            | 1, ho_ =>
              obtain rfl := Option.some.inj ho_
              have e0 : r' 0 = v := (ht.was 0 (by kernel_rfl)).trans e82_0
              have hG := ht.has.drop
              refine o_move (v := v) e0 ?_
              exact ⟨_, ⟨rfl, rfl⟩, hG⟩
            | 2, ho_ =>
              obtain rfl := Option.some.inj ho_
              have e14 : r' 14 = (.int .i64 (k : Int)) := (ht.was 14 (by kernel_rfl)).trans e82_14
              have hG := ht.has.drop
              refine o_move (v := (.int .i64 (k : Int))) e14 ?_
              exact ⟨_, ⟨rfl, rfl⟩, hG⟩
            | 3, ho_ =>
              obtain rfl := Option.some.inj ho_
              obtain ⟨e53, eh1⟩ := (ht.done 1 _ rfl rfl).1
              obtain ⟨e54, eh2⟩ := (ht.done 2 _ rfl rfl).1
              have hG := ht.has.drop
              refine o_indexF tmC_len Try.underlying22 ti42 e53 hv rfl e54 (by omega) hx96 fun b92 o93 hc94 => ?_
              exact ⟨_, ⟨b92, o93, rfl, rfl, hc94⟩, hG⟩
            | 4, ho_ =>
              obtain rfl := Option.some.inj ho_
              obtain ⟨b92, o93, e55, eh3, hc94⟩ := (ht.done 3 _ rfl rfl).1
              have hG := ht.has.drop
              refine o_fieldAddr (k := o93 + 1) (fun _ => by kernel_rfl) e55 ?_
              exact ⟨_, ⟨b92, o93, e55, rfl, rfl⟩, hG⟩
            | 5, ho_ =>
              obtain rfl := Option.some.inj ho_
              obtain ⟨b92, o93, e55, eh3, hc94⟩ := (ht.done 3 _ rfl rfl).1
              obtain ⟨b92_4, o93_4, q4_3, e56, eh4⟩ := (ht.done 4 _ rfl rfl).1
              have z_ : b92 = b92_4 := by have z0_ := Eq.trans (Eq.symm e55) q4_3; first | simpa using z0_ | (simp at z0_; first | exact z0_.1 | exact z0_.2)
              subst z_
              have z_ : o93 = o93_4 := by have z0_ := Eq.trans (Eq.symm e55) q4_3; first | simpa using z0_ | (simp at z0_; first | exact z0_.1 | exact z0_.2)
              subst z_
              have hG := ht.has.drop
              refine o_load1 (v := (.int .i64 x95.2)) Try.underlying3 rfl e56 hG (ht.fr R (by simp)) (CellsAt.field (k := 1) (ds := [(.int .i64 x95.2)]) hc94 rfl) ?_
              exact ⟨_, ⟨rfl, rfl⟩, hG⟩
            | 6, ho_ =>
              obtain rfl := Option.some.inj ho_
              have e0 : r' 0 = v := (ht.was 0 (by kernel_rfl)).trans e82_0
              have hG := ht.has.drop
              refine o_move (v := v) e0 ?_
              exact ⟨_, ⟨rfl, rfl⟩, hG⟩
            | 7, ho_ =>
              obtain rfl := Option.some.inj ho_
              have e14 : r' 14 = (.int .i64 (k : Int)) := (ht.was 14 (by kernel_rfl)).trans e82_14
              have hG := ht.has.drop
              refine o_move (v := (.int .i64 (k : Int))) e14 ?_
              exact ⟨_, ⟨rfl, rfl⟩, hG⟩
            | 8, ho_ =>
              obtain rfl := Option.some.inj ho_
              obtain ⟨e58, eh6⟩ := (ht.done 6 _ rfl rfl).1
              obtain ⟨e59, eh7⟩ := (ht.done 7 _ rfl rfl).1
              have hG := ht.has.drop
              refine o_indexF tmC_len Try.underlying22 ti42 e58 hv rfl e59 (by omega) hx96 fun b97 o98 hc99 => ?_
              exact ⟨_, ⟨b97, o98, rfl, rfl, hc99⟩, hG⟩
            | 9, ho_ =>
              obtain rfl := Option.some.inj ho_
              obtain ⟨b97, o98, e60, eh8, hc99⟩ := (ht.done 8 _ rfl rfl).1
              have hG := ht.has.drop
              refine o_fieldAddr (k := o98) (fun _ => by kernel_rfl) e60 ?_
              exact ⟨_, ⟨b97, o98, e60, rfl, rfl⟩, hG⟩
            | 10, ho_ =>
              obtain rfl := Option.some.inj ho_
              obtain ⟨b97, o98, e60, eh8, hc99⟩ := (ht.done 8 _ rfl rfl).1
              obtain ⟨b97_9, o98_9, q9_8, e61, eh9⟩ := (ht.done 9 _ rfl rfl).1
              have z_ : b97 = b97_9 := by have z0_ := Eq.trans (Eq.symm e60) q9_8; first | simpa using z0_ | (simp at z0_; first | exact z0_.1 | exact z0_.2)
              subst z_
              have z_ : o98 = o98_9 := by have z0_ := Eq.trans (Eq.symm e60) q9_8; first | simpa using z0_ | (simp at z0_; first | exact z0_.1 | exact z0_.2)
              subst z_
              have hG := ht.has.drop
              refine o_load1 (v := (.int .i64 x95.1)) Try.underlying3 rfl e61 hG (ht.fr R (by simp)) (CellsAt.field (k := 0) (ds := [(.int .i64 x95.1)]) hc99 rfl) ?_
              exact ⟨_, ⟨rfl, rfl⟩, hG⟩
            | 11, ho_ =>
              obtain rfl := Option.some.inj ho_
              obtain ⟨b92, o93, e55, eh3, hc94⟩ := (ht.done 3 _ rfl rfl).1
              obtain ⟨b92_4, o93_4, q4_3, e56, eh4⟩ := (ht.done 4 _ rfl rfl).1
              have z_ : b92 = b92_4 := by have z0_ := Eq.trans (Eq.symm e55) q4_3; first | simpa using z0_ | (simp at z0_; first | exact z0_.1 | exact z0_.2)
              subst z_
              have z_ : o93 = o93_4 := by have z0_ := Eq.trans (Eq.symm e55) q4_3; first | simpa using z0_ | (simp at z0_; first | exact z0_.1 | exact z0_.2)
              subst z_
              obtain ⟨e57, eh5⟩ := (ht.done 5 _ rfl rfl).1
              obtain ⟨b97, o98, e60, eh8, hc99⟩ := (ht.done 8 _ rfl rfl).1
              obtain ⟨b97_9, o98_9, q9_8, e61, eh9⟩ := (ht.done 9 _ rfl rfl).1
              have z_ : b97 = b97_9 := by have z0_ := Eq.trans (Eq.symm e60) q9_8; first | simpa using z0_ | (simp at z0_; first | exact z0_.1 | exact z0_.2)
              subst z_
              have z_ : o98 = o98_9 := by have z0_ := Eq.trans (Eq.symm e60) q9_8; first | simpa using z0_ | (simp at z0_; first | exact z0_.1 | exact z0_.2)
              subst z_
              obtain ⟨e62, eh10⟩ := (ht.done 10 _ rfl rfl).1
              have hG := ht.has.drop
              refine o_build (ps := #[(0, (.int .i64 x95.2)), (1, (.int .i64 x95.1))]) (v := (.agg #[(.int .i64 x95.2), (.int .i64 x95.1)])) (parts2 e57 e62) (fun _ => by kernel_rfl) ?_
              exact ⟨_, ⟨rfl, rfl⟩, hG⟩
            | 12, ho_ =>
              obtain rfl := Option.some.inj ho_
              obtain ⟨b92, o93, e55, eh3, hc94⟩ := (ht.done 3 _ rfl rfl).1
              obtain ⟨b92_4, o93_4, q4_3, e56, eh4⟩ := (ht.done 4 _ rfl rfl).1
              have z_ : b92 = b92_4 := by have z0_ := Eq.trans (Eq.symm e55) q4_3; first | simpa using z0_ | (simp at z0_; first | exact z0_.1 | exact z0_.2)
              subst z_
              have z_ : o93 = o93_4 := by have z0_ := Eq.trans (Eq.symm e55) q4_3; first | simpa using z0_ | (simp at z0_; first | exact z0_.1 | exact z0_.2)
              subst z_
              obtain ⟨b97, o98, e60, eh8, hc99⟩ := (ht.done 8 _ rfl rfl).1
              obtain ⟨b97_9, o98_9, q9_8, e61, eh9⟩ := (ht.done 9 _ rfl rfl).1
              have z_ : b97 = b97_9 := by have z0_ := Eq.trans (Eq.symm e60) q9_8; first | simpa using z0_ | (simp at z0_; first | exact z0_.1 | exact z0_.2)
              subst z_
              have z_ : o98 = o98_9 := by have z0_ := Eq.trans (Eq.symm e60) q9_8; first | simpa using z0_ | (simp at z0_; first | exact z0_.1 | exact z0_.2)
              subst z_
              obtain ⟨e63, eh11⟩ := (ht.done 11 _ rfl rfl).1
              have hG := ht.has.drop
              refine o_buildSlice (ps := #[(0, (.agg #[(.int .i64 x95.2), (.int .i64 x95.1)]))]) (cells := #[(.int .i64 x95.2), (.int .i64 x95.1)]) Try.underlying22 ti42 (by decide) (parts1 e63) (by kernel_rfl) hG fun b100 w101 hH102 => ?_
              exact ⟨_, ⟨b100, rfl, rfl⟩, hH102⟩
            | 13, ho_ =>
              obtain rfl := Option.some.inj ho_
              obtain ⟨e52, eh0⟩ := (ht.done 0 _ rfl rfl).1
              obtain ⟨b92, o93, e55, eh3, hc94⟩ := (ht.done 3 _ rfl rfl).1
              obtain ⟨b92_4, o93_4, q4_3, e56, eh4⟩ := (ht.done 4 _ rfl rfl).1
              have z_ : b92 = b92_4 := by have z0_ := Eq.trans (Eq.symm e55) q4_3; first | simpa using z0_ | (simp at z0_; first | exact z0_.1 | exact z0_.2)
              subst z_
              have z_ : o93 = o93_4 := by have z0_ := Eq.trans (Eq.symm e55) q4_3; first | simpa using z0_ | (simp at z0_; first | exact z0_.1 | exact z0_.2)
              subst z_
              obtain ⟨b97, o98, e60, eh8, hc99⟩ := (ht.done 8 _ rfl rfl).1
              obtain ⟨b97_9, o98_9, q9_8, e61, eh9⟩ := (ht.done 9 _ rfl rfl).1
              have z_ : b97 = b97_9 := by have z0_ := Eq.trans (Eq.symm e60) q9_8; first | simpa using z0_ | (simp at z0_; first | exact z0_.1 | exact z0_.2)
              subst z_
              have z_ : o98 = o98_9 := by have z0_ := Eq.trans (Eq.symm e60) q9_8; first | simpa using z0_ | (simp at z0_; first | exact z0_.1 | exact z0_.2)
              subst z_
              obtain ⟨b100, e64, eh12⟩ := (ht.done 12 _ rfl rfl).1
              have hG := ht.has
              refine o_append Try.underlying22 ti42 rfl (by decide) e52 hoa e64 (sl_litF (f := tmC) (l := [(x95.2, x95.1)]) tmC_len rfl rfl (by simp)) (hG.front 0 rfl) (eh12 ▸ (ht.done 12 _ rfl rfl).2) (one_tm _) (by first | omega | (simp; done) | (simp; omega)) (by first | omega | (simp; done) | (simp; omega)) fun v103 s104 w106 ho105 hH107 => ?_
              have ho105 : Own 42 2 v103 (acc ++ [(x95.2, x95.1)]).length ((acc ++ [(x95.2, x95.1)]).flatMap tmC) s104 := ho105.appF
              exact ⟨_, ⟨v103, s104, rfl, rfl, ho105⟩, hH107⟩
            | 14, ho_ =>
              obtain rfl := Option.some.inj ho_
              obtain ⟨b92, o93, e55, eh3, hc94⟩ := (ht.done 3 _ rfl rfl).1
              obtain ⟨b92_4, o93_4, q4_3, e56, eh4⟩ := (ht.done 4 _ rfl rfl).1
              have z_ : b92 = b92_4 := by have z0_ := Eq.trans (Eq.symm e55) q4_3; first | simpa using z0_ | (simp at z0_; first | exact z0_.1 | exact z0_.2)
              subst z_
              have z_ : o93 = o93_4 := by have z0_ := Eq.trans (Eq.symm e55) q4_3; first | simpa using z0_ | (simp at z0_; first | exact z0_.1 | exact z0_.2)
              subst z_
              obtain ⟨b97, o98, e60, eh8, hc99⟩ := (ht.done 8 _ rfl rfl).1
              obtain ⟨b97_9, o98_9, q9_8, e61, eh9⟩ := (ht.done 9 _ rfl rfl).1
              have z_ : b97 = b97_9 := by have z0_ := Eq.trans (Eq.symm e60) q9_8; first | simpa using z0_ | (simp at z0_; first | exact z0_.1 | exact z0_.2)
              subst z_
              have z_ : o98 = o98_9 := by have z0_ := Eq.trans (Eq.symm e60) q9_8; first | simpa using z0_ | (simp at z0_; first | exact z0_.1 | exact z0_.2)
              subst z_
              obtain ⟨b100, e64, eh12⟩ := (ht.done 12 _ rfl rfl).1
              obtain ⟨v103, s104, e65, eh13, ho105⟩ := (ht.done 13 _ rfl rfl).1
              have hG := ht.has.drop
              refine o_assign (v := v103) e65 ?_
              exact ⟨_, ⟨v103, e65, rfl, rfl⟩, hG⟩
            | i_ + 15, ho_ => exact absurd ho_ (by simp)
          · intro vs108 hs109 w110 hT111 hH112
            obtain ⟨e0_, eh0_⟩ := hT111 0 _ rfl
            obtain ⟨e1_, eh1_⟩ := hT111 1 _ rfl
            obtain ⟨e2_, eh2_⟩ := hT111 2 _ rfl
            obtain ⟨b92, o93, e3_, eh3_, hc94⟩ := hT111 3 _ rfl
            obtain ⟨b92_4, o93_4, q4_3, e4_, eh4_⟩ := hT111 4 _ rfl
            have z_ : b92 = b92_4 := by have z0_ := Eq.trans (Eq.symm e3_) q4_3; first | simpa using z0_ | (simp at z0_; first | exact z0_.1 | exact z0_.2)
            subst z_
            have z_ : o93 = o93_4 := by have z0_ := Eq.trans (Eq.symm e3_) q4_3; first | simpa using z0_ | (simp at z0_; first | exact z0_.1 | exact z0_.2)
            subst z_
            obtain ⟨e5_, eh5_⟩ := hT111 5 _ rfl
            obtain ⟨e6_, eh6_⟩ := hT111 6 _ rfl
            obtain ⟨e7_, eh7_⟩ := hT111 7 _ rfl
            obtain ⟨b97, o98, e8_, eh8_, hc99⟩ := hT111 8 _ rfl
            obtain ⟨b97_9, o98_9, q9_8, e9_, eh9_⟩ := hT111 9 _ rfl
            have z_ : b97 = b97_9 := by have z0_ := Eq.trans (Eq.symm e8_) q9_8; first | simpa using z0_ | (simp at z0_; first | exact z0_.1 | exact z0_.2)
            subst z_
            have z_ : o98 = o98_9 := by have z0_ := Eq.trans (Eq.symm e8_) q9_8; first | simpa using z0_ | (simp at z0_; first | exact z0_.1 | exact z0_.2)
            subst z_
            obtain ⟨e10_, eh10_⟩ := hT111 10 _ rfl
            obtain ⟨e11_, eh11_⟩ := hT111 11 _ rfl
            obtain ⟨b100, e12_, eh12_⟩ := hT111 12 _ rfl
            obtain ⟨v103, s104, e13_, eh13_, ho105⟩ := hT111 13 _ rfl
            obtain ⟨v103_14, q14_13, e14_, eh14_⟩ := hT111 14 _ rfl
            have z_ : v103 = v103_14 := Eq.trans (Eq.symm e13_) q14_13
            subst z_
            have hH113 : Has E w110 ([s44, R] ++ [[Hp.one b100 (.cells #[(.int .i64 x95.2), (.int .i64 x95.1)] 42 (0, 0))], s104]) := flow_back (cs := [[Hp.one b100 (.cells #[(.int .i64 x95.2), (.int .i64 x95.1)] 42 (0, 0))], s104]) hH112 (by show (hs109 0 ++ (hs109 1 ++ (hs109 2 ++ (hs109 3 ++ (hs109 4 ++ (hs109 5 ++ (hs109 6 ++ (hs109 7 ++ (hs109 8 ++ (hs109 9 ++ (hs109 10 ++ (hs109 11 ++ (hs109 12 ++ (hs109 13 ++ (hs109 14 ++ []))))))))))))))) = _; rw [eh0_, eh1_, eh2_, eh3_, eh4_, eh5_, eh6_, eh7_, eh8_, eh9_, eh10_, eh11_, eh12_, eh13_, eh14_]; rfl)
            generalize hr115 : puts vs108 _ 0 _ = r114
            have e116_0 : r114 0 = v := by rw [← hr115]; exact e82_0
            have e116_1 : r114 1 = (.agg #[(.int .i64 e_.1), (.int .i64 e_.2)]) := by rw [← hr115]; exact e82_1
            have e116_2 : r114 2 = (.int .i64 a) := by rw [← hr115]; exact e82_2
            have e116_3 : r114 3 = (.int .i64 to) := by rw [← hr115]; exact e82_3
            have e116_5 : r114 5 = (.pointer (some ⟨b2, 0, none⟩)) := by rw [← hr115]; exact e82_5
            have e116_9 : r114 9 = v34 := by rw [← hr115]; exact e82_9
            have e116_10 : r114 10 = v43 := by rw [← hr115]; exact e82_10
            have e116_11 : r114 11 = v52 := by rw [← hr115]; exact e82_11
            have e116_12 : r114 12 = (.int .i64 (i : Int)) := by rw [← hr115]; exact e82_12
            have e116_13 : r114 13 = v103 := by rw [← hr115]; exact e14_
            have e116_14 : r114 14 = (.int .i64 (k : Int)) := by rw [← hr115]; exact e82_14
            have e116_17 : r114 17 = (.bool (decide (30 < ((l.length : Nat) : Int)))) := by rw [← hr115]; exact e82_17
            have e116_36 : r114 36 = (.bool (decide ((i : Int) < (((reachS l [a]).length : Nat) : Int)))) := by rw [← hr115]; exact e82_36
            have e116_49 : r114 49 = (.bool (decide ((k : Int) < ((l.length : Nat) : Int)))) := by rw [← hr115]; exact rfl
            refine b_norm ?_
            refine t_norm (hK91 _ _ ?_)
            refine c_region ?_
            refine s_op (o_move (v := (.int .i64 (k : Int))) e116_14 ?_)
            refine s_op (o_add (a := (k : Int)) (b := 1) rfl rfl (w64 (by omega) (by omega)) ?_)
            refine s_op (o_assign (v := (.int .i64 ((k : Int) + 1))) rfl ?_)
            refine s_nil ?_
            have hH117 : Has E w110 [s104, s44, R] := (((hH113.front 1 rfl).front 1 rfl).front 3 rfl).first 3 rfl
            refine t_norm ⟨l.length - (k + 1), _, rfl, ?_, ?_⟩
            · omega
            · exact ⟨(k + 1), v103, s104, (acc ++ [(x95.2, x95.1)]), rfl, hH117, (by omega), (ho105), (by rw [back_step (show l[k]? = some _ from hx96), ← hacc]), (by first | omega | (rw [List.length_append, List.length_singleton]; omega)), e116_0, e116_1, e116_2, e116_3, e116_5, e116_9, e116_10, e116_11, e116_12, e116_13, rfl, e116_17, e116_36⟩
        · -- not: (k : Int) < ((l.length : Nat) : Int)
          rw [show k = l.length by omega, List.take_length] at hacc
          refine wp_exit ?_
          refine t_exit (t_exit (x_in (?_)))
          refine t_norm (hK80 _ _ ?_)
          refine wp_seq_k fun K118 hK118 => ?_
          refine c_region ?_
          refine s_op (o_move (v := v) e82_0 ?_)
          refine s_op (o_move (v := (.int .i64 a)) e82_2 ?_)
          refine s_op (o_move (v := (.int .i64 to)) e82_3 ?_)
          refine s_op (o_callf (vs := #[v, (.int .i64 a), (.int .i64 to)]) ca16 rfl (args3 rfl rfl rfl) (way_c hH86.all (l := l) (hv.mono (seg_sub 2 rfl)) (by first | omega | decide) a to) ?_)
          rintro _ w125 ⟨v119, s120, rfl, ho121, hX123⟩
          refine ⟨_, rfl, ?_⟩
          have hH124 : Has E w125 [s120, ha, s44, R] := hX123.of_all1
          have hwl122 := rway_le l a to
          refine s_op (o_lenS Try.underlying23 rfl ho121 ?_)
          refine s_op (o_move (v := va) e82_13 ?_)
          refine s_op (o_move (v := (.int .i64 to)) e82_3 ?_)
          refine s_op (o_move (v := (.int .i64 a)) e82_2 ?_)
          refine s_op (o_callf (vs := #[va, (.int .i64 to), (.int .i64 a)]) ca16 rfl (args3 rfl rfl rfl) (way_c hH124.all (l := acc) (hoa.sl.mono (seg_sub 1 rfl)) (by first | omega | decide) to a) ?_)
          rintro _ w132 ⟨v126, s127, rfl, ho128, hX130⟩
          refine ⟨_, rfl, ?_⟩
          have hH131 : Has E w132 [s127, s120, ha, s44, R] := hX130.of_all1
          have hwl129 := rway_le acc to a
          refine s_op (o_lenS Try.underlying23 rfl ho128 ?_)
          refine s_op (o_eql (a := (((rwayS l a to).length : Nat) : Int)) (b := (((rwayS acc to a).length : Nat) : Int)) rfl rfl ?_)
          refine s_op (o_move (v := (.bool (decide ((((rwayS l a to).length : Nat) : Int) = (((rwayS acc to a).length : Nat) : Int))))) rfl ?_)
          by_cases h133 : (((rwayS l a to).length : Nat) : Int) = (((rwayS acc to a).length : Nat) : Int)
          · -- (((rwayS l a to).length : Nat) : Int) = (((rwayS acc to a).length : Nat) : Int)
            refine s_on 77 rfl (congrArg Value.bool (decide_eq_true h133)) (o_move (v := v43) e82_10 ?_)
            refine s_on 77 rfl (congrArg Value.bool (decide_eq_true h133)) (o_move (v := (.int .i64 to)) e82_3 ?_)
            refine s_on 77 rfl (congrArg Value.bool (decide_eq_true h133)) (o_callf (vs := #[v43, (.int .i64 to)]) ca20 rfl (args2 rfl rfl) (refhas_c hH131.all (l := (reachS l [a])) (ho45.sl.mono (seg_sub 3 rfl)) to) ?_)
            rintro _ w136 ⟨rfl, hX134⟩
            refine ⟨_, rfl, ?_⟩
            have hH135 := hX134.of_all
            refine s_on 77 rfl (congrArg Value.bool (decide_eq_true h133)) (o_move (v := va) e82_13 ?_)
            refine s_on 77 rfl (congrArg Value.bool (decide_eq_true h133)) (o_move (v := (.int .i64 to)) e82_3 ?_)
            refine s_on 77 rfl (congrArg Value.bool (decide_eq_true h133)) (o_buildSlice (ps := #[(0, (.int .i64 to))]) (cells := #[(.int .i64 to)]) Try.underlying23 ti3 (by decide) (parts1 rfl) (by kernel_rfl) hH135 fun b137 w138 hH139 => ?_)
            refine s_on 77 rfl (congrArg Value.bool (decide_eq_true h133)) (o_callf (vs := #[va, (.slice (some ⟨b137, 0, none⟩) 1 1)]) ca12 rfl (args2 rfl rfl) (reach_c hH139.all (l := acc) (hoa.sl.mono (seg_sub 3 rfl)) (by omega) (fr := [to]) ((sl_lit (f := iV) (l := [to]) rfl rfl (by simp)).mono (seg_sub 0 rfl))) ?_)
            rintro _ w145 ⟨v140, s141, rfl, ho142, hX143⟩
            refine ⟨_, rfl, ?_⟩
            have hH144 : Has E w145 [s141, [Hp.one b137 (.cells #[(.int .i64 to)] 3 (0, 0))], s127, s120, ha, s44, R] := hX143.of_all1
            refine s_on 77 rfl (congrArg Value.bool (decide_eq_true h133)) (o_move (v := (.int .i64 a)) e82_2 ?_)
            refine s_on 77 rfl (congrArg Value.bool (decide_eq_true h133)) (o_callf (vs := #[v140, (.int .i64 a)]) ca20 rfl (args2 rfl rfl) (refhas_c hH144.all (l := (reachS acc [to])) (ho142.sl.mono (seg_sub 0 rfl)) a) ?_)
            rintro _ w148 ⟨rfl, hX146⟩
            refine ⟨_, rfl, ?_⟩
            have hH147 := hX146.of_all
            refine s_on 77 rfl (congrArg Value.bool (decide_eq_true h133)) (o_eqlb Try.underlying4 rfl rfl ?_)
            refine s_op (o_pick_t (u := (.bool ((decide (to ∈ (reachS l [a]))) == (decide (a ∈ (reachS acc [to])))))) ((rfl : _ = _).trans (congrArg Value.bool (decide_eq_true h133))) rfl ?_)
            refine s_op (o_move (v := (.bool ((decide (to ∈ (reachS l [a]))) == (decide (a ∈ (reachS acc [to])))))) rfl ?_)
            rcases Bool.eq_false_or_eq_true ((decide (to ∈ (reachS l [a]))) == (decide (a ∈ (reachS acc [to])))) with h149 | h149
            · -- (decide (to ∈ (reachS l [a]))) == (decide (a ∈ (reachS acc [to])))
              refine s_on 89 rfl (congrArg Value.bool h149) (o_callf (vs := #[]) ca8 rfl (args0) (awake15_c hH147.all) ?_)
              rintro _ w152 ⟨rfl, hX150⟩
              refine ⟨_, rfl, ?_⟩
              have hH151 := hX150.of_all
              refine s_op (o_pick_t (u := (.bool true)) ((rfl : _ = _).trans (congrArg Value.bool h149)) rfl ?_)
              refine s_op (o_assign (v := (.bool true)) rfl ?_)
              refine s_nil ?_
              refine t_norm (hK118 _ _ ?_)
              refine wp_ret ?_
              refine c_ret1 Try.results6  (v := (.bool true)) rfl ?_
              have hH153 : Has E w152 [R] := (hH151.front 6 rfl).first 1 rfl
              exact ⟨rfl, hH153⟩
            · -- not: (decide (to ∈ (reachS l [a]))) == (decide (a ∈ (reachS acc [to])))
              rw [hacc] at h149; simp [back_reach l a to] at h149
          · -- not: (((rwayS l a to).length : Nat) : Int) = (((rwayS acc to a).length : Nat) : Int)
            exfalso; rw [hacc] at h133; exact h133 (by rw [back_way])
end Go.Q
