/-
  Parts of a walk: what functions of the program compute, each told by a theorem.
-/
import Derived.Test.YtagicdbeacmffaaDoorQV11
set_option linter.unusedVariables false
set_option linter.unusedSimpArgs false
namespace Go.Q
open Go.Proofs
set_option linter.unusedVariables false
set_option maxRecDepth 100000
attribute [local irreducible] wpList OK Code.wp
set_option maxHeartbeats 4000000 in
theorem chain_c {E w : World} {R : List Hp} (hH : Has E w [R]) (hg : CellsAt R 0 0 nibV) (t : List UInt8) (htl : t.length ≤ 1000000) (re rc pl ab : Int) (hpl0 : -4000000000000 ≤ pl ∧ pl ≤ 4000000000000) :
    Calls Tryd.prog 28 #[(.agg #[(.int .i64 re), (.int .i64 rc)]), (S t), (.int .i64 pl), (.int .i64 ab)] w fun e w' => ∃ v' hs', e = .returned (.tuple #[v', .int .i64 (chainS re rc (t.length + 1) t pl ab).2]) ∧ Own 40 4 v' (chainS re rc (t.length + 1) t pl ab).1.length ((chainS re rc (t.length + 1) t pl ab).1.flatMap frC) hs' ∧ Has E w' [hs', R] := by
  refine c_enter (args := [(.agg #[(.int .i64 re), (.int .i64 rc)]), (S t), (.int .i64 pl), (.int .i64 ab)]) Tryd.func28 rfl Tryd.ntmps28 (by simp) ?_
  refine wp_seq_k fun K1 hK1 => ?_
  refine c_region ?_
  refine s_op (o_box (cs := #[(.int .i64 re), (.int .i64 rc)]) rfl rfl hH fun b2 w3 hH4 => ?_)
  refine s_op (o_assign (v := (.slice none 0 0)) rfl ?_)
  refine s_op (o_assign (v := (.int .i64 0)) rfl ?_)
  refine s_nil ?_
  refine t_norm (hK1 _ _ ?_)
  refine wp_seq_k fun K5 hK5 => ?_
  refine c_region ?_
  refine s_op (o_assign (v := (.slice none 0 0)) rfl ?_)
  refine s_nil ?_
  refine t_norm (hK5 _ _ ?_)
  refine wp_seq_k fun K6 hK6 => ?_
  refine wp_block ?_
  let I8 : Nat → (Nat → Value) → World → Prop := fun n__ r__ w__ => ∃ (n : Nat) (cur : List UInt8) (pl2 : Int) (ab2 : Int) (va : Value) (ha : List Hp) (acc : List Fr), n__ = n + 1 ∧ Has E w__ [ha, [Hp.one b2 (.cells #[(.int .i64 re), (.int .i64 rc)] 51 (0, 0))], R] ∧ (cur.length < n) ∧ (Own 40 4 va acc.length (acc.flatMap frC) ha) ∧ (pl2 + (cur.length : Int) = pl + (t.length : Int)) ∧ (25 * acc.length + cur.length ≤ t.length) ∧ ((chainS re rc (t.length + 1) t pl ab) = (acc ++ (chainS re rc n cur pl2 ab2).1, (chainS re rc n cur pl2 ab2).2)) ∧ r__ 0 = (.agg #[(.int .i64 re), (.int .i64 rc)]) ∧ r__ 1 = (S cur) ∧ r__ 2 = (.int .i64 pl2) ∧ r__ 3 = (.int .i64 ab2) ∧ r__ 4 = (.pointer (some ⟨b2, 0, none⟩)) ∧ r__ 8 = (.slice none 0 0) ∧ r__ 9 = (.int .i64 0) ∧ r__ 10 = va
  have hH9 : Has E w3 [[], [Hp.one b2 (.cells #[(.int .i64 re), (.int .i64 rc)] 51 (0, 0))], R] := (Has.nil ((hH4.front 1 rfl).front 1 rfl)).first 3 rfl
  refine c_loop I8 _ ⟨(t.length + 1), t, pl, ab, (.slice none 0 0), [], [], rfl, hH9, (by omega), Own.nil 40 4, rfl, (by simp), (by simp), rfl, rfl, rfl, rfl, rfl, rfl, rfl, rfl⟩ ?_
  rintro n_ r12 w10 ⟨n, cur, pl2, ab2, va, ha, acc, rfl, hH11, hn, hoa, hpl, hal, hch, e7_0, e7_1, e7_2, e7_3, e7_4, e7_8, e7_9, e7_10⟩
  refine wp_seq_k fun K13 hK13 => ?_
  refine wp_seq_k fun K14 hK14 => ?_
  refine c_region ?_
  refine s_op (o_move (v := (S cur)) e7_1 ?_)
  refine s_op (o_sneq (a := cur) (b := ([] : List UInt8)) rfl rfl ?_)
  refine s_nil ?_
  refine t_norm (hK14 _ _ ?_)
  refine c_cond rfl (fun h15 => ?_) (fun h15 => ?_)
  · -- cur ≠ ([] : List UInt8)
    refine wp_skip ?_
    refine t_norm (hK13 _ _ ?_)
    refine wp_block ?_
    refine wp_seq_k fun K16 hK16 => ?_
    refine c_region ?_
    refine s_op (o_move (v := (S cur)) e7_1 ?_)
    refine s_op (o_callf (vs := #[(S cur)]) ca24 rfl (args1 rfl) (fopen_c hH11.all (hg.mono (seg_sub 2 rfl)) cur (by omega)) ?_)
    rintro _ w19 ⟨rfl, hX17⟩
    refine ⟨_, rfl, ?_⟩
    have hH18 := hX17.of_all
    refine s_op (o_move (v := (.tuple #[(.agg #[(.int .i64 ((oF cur).ep)), (.int .i64 ((oF cur).pl)), (.int .i64 ((oF cur).gsn)), (S ((oF cur).data))]), (.int .i64 (oN cur)), (.bool (opensB cur))])) rfl ?_)
    refine s_op (o_extract (v := (.agg #[(.int .i64 ((oF cur).ep)), (.int .i64 ((oF cur).pl)), (.int .i64 ((oF cur).gsn)), (S ((oF cur).data))])) rfl rfl ?_)
    refine s_op (o_extract (v := (.int .i64 (oN cur))) rfl rfl ?_)
    refine s_op (o_extract (v := (.bool (opensB cur))) rfl rfl ?_)
    refine s_op (o_alloc (cs := #[(.int .i64 0), (.int .i64 0), (.int .i64 0), (S ([] : List UInt8))]) ti40 rfl hH18 fun b20 w21 hH22 => ?_)
    refine s_eff (o_storeN (vs := [(.int .i64 ((oF cur).ep)), (.int .i64 ((oF cur).pl)), (.int .i64 ((oF cur).gsn)), (S ((oF cur).data))]) (c' := #[(.int .i64 ((oF cur).ep)), (.int .i64 ((oF cur).pl)), (.int .i64 ((oF cur).gsn)), (S ((oF cur).data))]) ti40 rfl rfl rfl rfl (by intro u hu; simp only [List.mem_cons, List.not_mem_nil, or_false] at hu; rcases hu with rfl | rfl | rfl | rfl <;> first | rfl) (by simp) (by kernel_rfl) (hH22.front 0 rfl) fun w23 hH24 => ?_)
    refine s_op (o_assign (v := (.int .i64 (oN cur))) rfl ?_)
    refine s_op (o_assign (v := (.bool (opensB cur))) rfl ?_)
    refine s_nil ?_
    refine t_norm (hK16 _ _ ?_)
    refine wp_seq_k fun K25 hK25 => ?_
    refine wp_seq_k fun K26 hK26 => ?_
    refine c_region ?_
    refine s_op (o_move (v := (.bool (opensB cur))) rfl ?_)
    refine s_op (o_not rfl ?_)
    refine s_op (o_move (v := (.bool (!(opensB cur)))) rfl ?_)
    rcases Bool.eq_false_or_eq_true (!(opensB cur)) with h27 | h27
    · -- !(opensB cur)
      refine s_off (b' := true) 24 rfl (congrArg Value.bool h27) rfl ?_
      refine s_off (b' := true) 24 rfl (congrArg Value.bool h27) rfl ?_
      refine s_off (b' := true) 24 rfl (congrArg Value.bool h27) rfl ?_
      refine s_off (b' := true) 24 rfl (congrArg Value.bool h27) rfl ?_
      refine s_off (b' := true) 24 rfl (congrArg Value.bool h27) rfl ?_
      refine s_off (b' := true) 24 rfl (congrArg Value.bool h27) rfl ?_
      refine s_op (o_pick_t (u := (.bool true)) ((rfl : _ = _).trans (congrArg Value.bool h27)) rfl ?_)
      refine s_nil ?_
      refine t_norm (hK26 _ _ ?_)
      refine c_true rfl rfl ?_
      refine wp_exit ?_
      refine t_exit (x_out rfl (t_exit (x_in (?_))))
      refine t_norm (hK6 _ _ ?_)
      refine wp_seq_k fun K28 hK28 => ?_
      refine c_region ?_
      refine s_op (o_move (v := va) e7_10 ?_)
      refine s_op (o_move (v := (.int .i64 pl2)) e7_2 ?_)
      refine s_op (o_assign (v := va) rfl ?_)
      refine s_op (o_assign (v := (.int .i64 pl2)) rfl ?_)
      refine s_nil ?_
      refine t_norm (hK28 _ _ ?_)
      refine wp_ret ?_
      refine c_ret2 Tryd.results28  (v := va) rfl (x := (.int .i64 pl2)) rfl ?_
      have hH29 : Has E w23 [ha, R] := ((hH24.front 3 rfl).front 2 rfl).first 2 rfl
      have he := chain_end (.inl (not_t h27)) hch
      exact ⟨_, _, by rw [he], by rw [he]; exact hoa, hH29⟩
    · -- not: !(opensB cur)
      have hle := oN_le (not_f h27)
      have hny := oN_yes (not_f h27)
      refine s_on 24 rfl (congrArg Value.bool h27) (o_loadN (cs := [(.int .i64 re), (.int .i64 rc)]) Tryd.underlying51 rfl ti51 e7_4 hH24 (seg_sub 2 rfl) (CellsAt.one rfl) ?_)
      refine s_on 24 rfl (congrArg Value.bool h27) (o_loadN (cs := [(.int .i64 ((oF cur).ep)), (.int .i64 ((oF cur).pl)), (.int .i64 ((oF cur).gsn)), (S ((oF cur).data))]) Tryd.underlying40 rfl ti40 rfl hH24 (seg_sub 0 rfl) (CellsAt.one rfl) ?_)
      refine s_on 24 rfl (congrArg Value.bool h27) (o_move (v := (.int .i64 pl2)) e7_2 ?_)
      refine s_on 24 rfl (congrArg Value.bool h27) (o_move (v := (.int .i64 ab2)) e7_3 ?_)
      refine s_on 24 rfl (congrArg Value.bool h27) (o_callf (vs := #[(.agg #[(.int .i64 re), (.int .i64 rc)]), (.agg #[(.int .i64 ((oF cur).ep)), (.int .i64 ((oF cur).pl)), (.int .i64 ((oF cur).gsn)), (S ((oF cur).data))]), (.int .i64 pl2), (.int .i64 ab2)]) ca32 rfl (args4 rfl rfl rfl rfl) (ffits_c hH24.all (oF cur) (Nat.le_trans (oF_le cur) (by omega)) re rc pl2 ab2) ?_)
      rintro _ w32 ⟨rfl, hX30⟩
      refine ⟨_, rfl, ?_⟩
      have hH31 := hX30.of_all
      refine s_on 24 rfl (congrArg Value.bool h27) (o_not rfl ?_)
      refine s_op (o_pick_f (u := (.bool (!(fitsF re rc pl2 ab2 (oF cur))))) ((rfl : _ = _).trans (congrArg Value.bool h27)) rfl ?_)
      refine s_nil ?_
      refine t_norm (hK26 _ _ ?_)
      refine c_condb rfl (fun h33 => ?_) (fun h33 => ?_)
      · -- !(fitsF re rc pl2 ab2 (oF cur))
        refine wp_exit ?_
        refine t_exit (x_out rfl (t_exit (x_in (?_))))
        refine t_norm (hK6 _ _ ?_)
        refine wp_seq_k fun K34 hK34 => ?_
        refine c_region ?_
        refine s_op (o_move (v := va) e7_10 ?_)
        refine s_op (o_move (v := (.int .i64 pl2)) e7_2 ?_)
        refine s_op (o_assign (v := va) rfl ?_)
        refine s_op (o_assign (v := (.int .i64 pl2)) rfl ?_)
        refine s_nil ?_
        refine t_norm (hK34 _ _ ?_)
        refine wp_ret ?_
        refine c_ret2 Tryd.results28  (v := va) rfl (x := (.int .i64 pl2)) rfl ?_
        have hH35 : Has E w32 [ha, R] := ((hH31.front 3 rfl).front 2 rfl).first 2 rfl
        have he := chain_end (.inr (not_t h33)) hch
        exact ⟨_, _, by rw [he], by rw [he]; exact hoa, hH35⟩
      · -- not: !(fitsF re rc pl2 ab2 (oF cur))
        refine wp_skip ?_
        refine t_norm (hK25 _ _ ?_)
        refine wp_seq_k fun K36 hK36 => ?_
        refine c_region ?_
        refine s_op (o_move (v := va) e7_10 ?_)
        refine s_op (o_loadN (cs := [(.int .i64 ((oF cur).ep)), (.int .i64 ((oF cur).pl)), (.int .i64 ((oF cur).gsn)), (S ((oF cur).data))]) Tryd.underlying40 rfl ti40 rfl hH31 (seg_sub 0 rfl) (CellsAt.one rfl) ?_)
        refine s_op (o_buildSlice (ps := #[(0, (.agg #[(.int .i64 ((oF cur).ep)), (.int .i64 ((oF cur).pl)), (.int .i64 ((oF cur).gsn)), (S ((oF cur).data))]))]) (cells := #[(.int .i64 ((oF cur).ep)), (.int .i64 ((oF cur).pl)), (.int .i64 ((oF cur).gsn)), (S ((oF cur).data))]) Tryd.underlying52 ti40 (by decide) (parts1 rfl) (by kernel_rfl) hH31 fun b37 w38 hH39 => ?_)
        refine s_op (o_append Tryd.underlying52 ti40 rfl (by decide) rfl hoa rfl (sl_litF (f := frC) (l := [(oF cur)]) frC_len rfl rfl (by simp)) (hH39.front 2 rfl) (seg_sub 0 rfl) (one_fr _) (by simp; omega) (by simp; omega) fun v40 s41 w43 ho42 hH44 => ?_)
        have ho42 : Own 40 4 v40 (acc ++ [(oF cur)]).length ((acc ++ [(oF cur)]).flatMap frC) s41 := ho42.appF
        refine s_op (o_assign (v := v40) rfl ?_)
        refine s_nil ?_
        refine t_norm (hK36 _ _ ?_)
        refine c_flow [s41, [Hp.one b37 (.cells #[(.int .i64 ((oF cur).ep)), (.int .i64 ((oF cur).pl)), (.int .i64 ((oF cur).gsn)), (S ((oF cur).data))] 40 (0, 0))], [Hp.one b20 (.cells #[(.int .i64 ((oF cur).ep)), (.int .i64 ((oF cur).pl)), (.int .i64 ((oF cur).gsn)), (S ((oF cur).data))] 40 (0, 0))], [Hp.one b2 (.cells #[(.int .i64 re), (.int .i64 rc)] 51 (0, 0))], R] (fun i_ => match i_ with | _ => []) (fun i_ v_ h_ => match i_ with | 0 => v_ = (S cur) ∧ h_ = [] | 1 => v_ = (.int .i64 (oN cur)) ∧ h_ = [] | 2 => v_ = (S (cur.drop ((oN cur)).toNat)) ∧ h_ = [] | 3 => v_ = (.int .i64 pl2) ∧ h_ = [] | 4 => v_ = (.int .i64 (oN cur)) ∧ h_ = [] | 5 => v_ = (.int .i64 (pl2 + (oN cur))) ∧ h_ = [] | 6 => v_ = (.pointer (some ⟨b20, 2, none⟩)) ∧ h_ = [] | 7 => v_ = (.int .i64 ((oF cur).gsn)) ∧ h_ = [] | 8 => v_ = (S (cur.drop ((oN cur)).toNat)) ∧ h_ = [] | 9 => v_ = (.int .i64 (pl2 + (oN cur))) ∧ h_ = [] | 10 => v_ = (.int .i64 ((oF cur).gsn)) ∧ h_ = [] | _ => True) mixed (by kernel_rfl) (flow_has (cs := []) hH44 rfl) ?_ ?_
        · intro i_ o_ ho_ r' w' G hs_ ht
          match i_, ho_ with
          | 0, ho_ =>
            obtain rfl := Option.some.inj ho_
            have e1 : r' 1 = (S cur) := (ht.was 1 (by kernel_rfl)).trans e7_1
            have hG := ht.has.drop
            refine o_move (v := (S cur)) e1 ?_
            exact ⟨_, ⟨rfl, rfl⟩, hG⟩
          | 1, ho_ =>
            obtain rfl := Option.some.inj ho_
            have e12 : r' 12 = (.int .i64 (oN cur)) := ht.was 12 (by kernel_rfl)
            have hG := ht.has.drop
            refine o_move (v := (.int .i64 (oN cur))) e12 ?_
            exact ⟨_, ⟨rfl, rfl⟩, hG⟩
          | 2, ho_ =>
            obtain rfl := Option.some.inj ho_
            obtain ⟨e36, eh0⟩ := (ht.done 0 _ rfl rfl).1
            obtain ⟨e37, eh1⟩ := (ht.done 1 _ rfl rfl).1
            have hG := ht.has.drop
            refine o_ssl_l Tryd.underlying9 e36 e37 (by omega) (by omega) ?_
            exact ⟨_, ⟨rfl, rfl⟩, hG⟩
          | 3, ho_ =>
            obtain rfl := Option.some.inj ho_
            have e2 : r' 2 = (.int .i64 pl2) := (ht.was 2 (by kernel_rfl)).trans e7_2
            have hG := ht.has.drop
            refine o_move (v := (.int .i64 pl2)) e2 ?_
            exact ⟨_, ⟨rfl, rfl⟩, hG⟩
          | 4, ho_ =>
            obtain rfl := Option.some.inj ho_
            have e12 : r' 12 = (.int .i64 (oN cur)) := ht.was 12 (by kernel_rfl)
            have hG := ht.has.drop
            refine o_move (v := (.int .i64 (oN cur))) e12 ?_
            exact ⟨_, ⟨rfl, rfl⟩, hG⟩
          | 5, ho_ =>
            obtain rfl := Option.some.inj ho_
            obtain ⟨e39, eh3⟩ := (ht.done 3 _ rfl rfl).1
            obtain ⟨e40, eh4⟩ := (ht.done 4 _ rfl rfl).1
            have hG := ht.has.drop
            refine o_add (a := pl2) (b := (oN cur)) e39 e40 (w64 (by omega) (by omega)) ?_
            exact ⟨_, ⟨rfl, rfl⟩, hG⟩
          | 6, ho_ =>
            obtain rfl := Option.some.inj ho_
            have e11 : r' 11 = (.pointer (some ⟨b20, 0, none⟩)) := ht.was 11 (by kernel_rfl)
            have hG := ht.has.drop
            refine o_fieldAddr (k := 2) (fun _ => by kernel_rfl) e11 ?_
            exact ⟨_, ⟨rfl, rfl⟩, hG⟩
          | 7, ho_ =>
            obtain rfl := Option.some.inj ho_
            obtain ⟨e42, eh6⟩ := (ht.done 6 _ rfl rfl).1
            have hG := ht.has.drop
            refine o_load1 (v := (.int .i64 ((oF cur).gsn))) Tryd.underlying3 rfl e42 hG (ht.fr [Hp.one b20 (.cells #[(.int .i64 ((oF cur).ep)), (.int .i64 ((oF cur).pl)), (.int .i64 ((oF cur).gsn)), (S ((oF cur).data))] 40 (0, 0))] (by simp)) (CellsAt.one rfl) ?_
            exact ⟨_, ⟨rfl, rfl⟩, hG⟩
          | 8, ho_ =>
            obtain rfl := Option.some.inj ho_
            obtain ⟨e38, eh2⟩ := (ht.done 2 _ rfl rfl).1
            have hG := ht.has.drop
            refine o_assign (v := (S (cur.drop ((oN cur)).toNat))) e38 ?_
            exact ⟨_, ⟨rfl, rfl⟩, hG⟩
          | 9, ho_ =>
            obtain rfl := Option.some.inj ho_
            obtain ⟨e41, eh5⟩ := (ht.done 5 _ rfl rfl).1
            have hG := ht.has.drop
            refine o_assign (v := (.int .i64 (pl2 + (oN cur)))) e41 ?_
            exact ⟨_, ⟨rfl, rfl⟩, hG⟩
          | 10, ho_ =>
            obtain rfl := Option.some.inj ho_
            obtain ⟨e43, eh7⟩ := (ht.done 7 _ rfl rfl).1
            have hG := ht.has.drop
            refine o_assign (v := (.int .i64 ((oF cur).gsn))) e43 ?_
            exact ⟨_, ⟨rfl, rfl⟩, hG⟩
          | i_ + 11, ho_ => exact absurd ho_ (by simp)
        · intro vs45 hs46 w47 hT48 hH49
          obtain ⟨e0_, eh0_⟩ := hT48 0 _ rfl
          obtain ⟨e1_, eh1_⟩ := hT48 1 _ rfl
          obtain ⟨e2_, eh2_⟩ := hT48 2 _ rfl
          obtain ⟨e3_, eh3_⟩ := hT48 3 _ rfl
          obtain ⟨e4_, eh4_⟩ := hT48 4 _ rfl
          obtain ⟨e5_, eh5_⟩ := hT48 5 _ rfl
          obtain ⟨e6_, eh6_⟩ := hT48 6 _ rfl
          obtain ⟨e7_, eh7_⟩ := hT48 7 _ rfl
          obtain ⟨e8_, eh8_⟩ := hT48 8 _ rfl
          obtain ⟨e9_, eh9_⟩ := hT48 9 _ rfl
          obtain ⟨e10_, eh10_⟩ := hT48 10 _ rfl
          have hH50 : Has E w47 ([s41, [Hp.one b37 (.cells #[(.int .i64 ((oF cur).ep)), (.int .i64 ((oF cur).pl)), (.int .i64 ((oF cur).gsn)), (S ((oF cur).data))] 40 (0, 0))], [Hp.one b20 (.cells #[(.int .i64 ((oF cur).ep)), (.int .i64 ((oF cur).pl)), (.int .i64 ((oF cur).gsn)), (S ((oF cur).data))] 40 (0, 0))], [Hp.one b2 (.cells #[(.int .i64 re), (.int .i64 rc)] 51 (0, 0))], R] ++ []) := flow_back (cs := []) hH49 (by show (hs46 0 ++ (hs46 1 ++ (hs46 2 ++ (hs46 3 ++ (hs46 4 ++ (hs46 5 ++ (hs46 6 ++ (hs46 7 ++ (hs46 8 ++ (hs46 9 ++ (hs46 10 ++ []))))))))))) = _; rw [eh0_, eh1_, eh2_, eh3_, eh4_, eh5_, eh6_, eh7_, eh8_, eh9_, eh10_]; rfl)
          generalize hr52 : puts vs45 _ 0 _ = r51
          have e53_0 : r51 0 = (.agg #[(.int .i64 re), (.int .i64 rc)]) := by rw [← hr52]; exact e7_0
          have e53_1 : r51 1 = (S (cur.drop ((oN cur)).toNat)) := by rw [← hr52]; exact e8_
          have e53_2 : r51 2 = (.int .i64 (pl2 + (oN cur))) := by rw [← hr52]; exact e9_
          have e53_3 : r51 3 = (.int .i64 ((oF cur).gsn)) := by rw [← hr52]; exact e10_
          have e53_4 : r51 4 = (.pointer (some ⟨b2, 0, none⟩)) := by rw [← hr52]; exact e7_4
          have e53_8 : r51 8 = (.slice none 0 0) := by rw [← hr52]; exact e7_8
          have e53_9 : r51 9 = (.int .i64 0) := by rw [← hr52]; exact e7_9
          have e53_10 : r51 10 = v40 := by rw [← hr52]; exact rfl
          have e53_11 : r51 11 = (.pointer (some ⟨b20, 0, none⟩)) := by rw [← hr52]; exact rfl
          have e53_12 : r51 12 = (.int .i64 (oN cur)) := by rw [← hr52]; exact rfl
          have e53_13 : r51 13 = (.bool (opensB cur)) := by rw [← hr52]; exact rfl
          have e53_15 : r51 15 = (.bool (decide (cur ≠ ([] : List UInt8)))) := by rw [← hr52]; exact rfl
          have e53_31 : r51 31 = (.bool (!(fitsF re rc pl2 ab2 (oF cur)))) := by rw [← hr52]; exact rfl
          refine b_norm ?_
          have hH54 : Has E w47 [s41, [Hp.one b2 (.cells #[(.int .i64 re), (.int .i64 rc)] 51 (0, 0))], R] := (((hH50.front 4 rfl).front 4 rfl).front 2 rfl).first 3 rfl
          refine t_norm ⟨(n - 1) + 1, _, rfl, ?_, ?_⟩
          · omega
          · exact ⟨(n - 1), (cur.drop ((oN cur)).toNat), (pl2 + (oN cur)), ((oF cur).gsn), v40, s41, (acc ++ [(oF cur)]), rfl, hH54, (by simp only [List.length_drop]; omega), (ho42), (by simp only [List.length_drop]; omega), (by simp only [List.length_append, List.length_cons, List.length_nil, List.length_drop]; omega), (by exact chain_step (by omega) (not_f h27) (not_f h33) hch), e53_0, e53_1, e53_2, e53_3, e53_4, e53_8, e53_9, e53_10⟩
  · -- not: cur ≠ ([] : List UInt8)
    refine wp_exit ?_
    refine t_exit (t_exit (x_in (?_)))
    refine t_norm (hK6 _ _ ?_)
    refine wp_seq_k fun K55 hK55 => ?_
    refine c_region ?_
    refine s_op (o_move (v := va) e7_10 ?_)
    refine s_op (o_move (v := (.int .i64 pl2)) e7_2 ?_)
    refine s_op (o_assign (v := va) rfl ?_)
    refine s_op (o_assign (v := (.int .i64 pl2)) rfl ?_)
    refine s_nil ?_
    refine t_norm (hK55 _ _ ?_)
    refine wp_ret ?_
    refine c_ret2 Tryd.results28  (v := va) rfl (x := (.int .i64 pl2)) rfl ?_
    have hH56 : Has E w10 [ha, R] := ((hH11.front 2 rfl).front 1 rfl).first 2 rfl
    have he := chain_end (.inl (by rw [show cur = [] from Classical.not_not.1 h15]; exact opens_nil)) hch
    exact ⟨_, _, by rw [he], by rw [he]; exact hoa, hH56⟩
end Go.Q
