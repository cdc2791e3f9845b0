/-
  Parts of a walk: what functions of the program compute, each told by a theorem.
-/
import Derived.Test.YtagicdbeacmffaaDoorQV12
import Derived.Test.YtagicdbeacmffaaDoorQV13
import Derived.Test.YtagicdbeacmffaaDoorQV14
set_option linter.unusedVariables false
set_option linter.unusedSimpArgs false
namespace Go.Q
open Go.Proofs
set_option linter.unusedVariables false
set_option maxRecDepth 100000
attribute [local irreducible] wpList OK Code.wp
set_option maxHeartbeats 4000000 in
theorem FrameChains_c {E w : World} {R : List Hp} (hH : Has E w [R]) (hg : CellsAt R 0 0 nibV) (re rc : Int) (t : List UInt8) (htl : t.length ≤ 9223372036854775807) (pl ab : Int) (f : Fr) (hfl : f.data.length ≤ 9223372036854775807) :
    Calls Tryd.prog 9 #[(.int .i64 re), (.int .i64 rc), (S t), (.int .i64 pl), (.int .i64 ab), (.agg #[(.int .i64 f.ep), (.int .i64 f.pl), (.int .i64 f.gsn), (S f.data)])] w fun e w' => e = .returned (.bool true) ∧ Has E w' [R] := by
  refine c_enter (args := [(.int .i64 re), (.int .i64 rc), (S t), (.int .i64 pl), (.int .i64 ab), (.agg #[(.int .i64 f.ep), (.int .i64 f.pl), (.int .i64 f.gsn), (S f.data)])]) Tryd.func9 rfl Tryd.ntmps9 (by simp) ?_
  refine wp_seq_k fun K1 hK1 => ?_
  refine c_region ?_
  refine s_op (o_box (cs := #[(.int .i64 f.ep), (.int .i64 f.pl), (.int .i64 f.gsn), (S f.data)]) rfl rfl hH fun b2 w3 hH4 => ?_)
  refine s_op (o_assign (v := (.bool false)) rfl ?_)
  refine s_nil ?_
  refine t_norm (hK1 _ _ ?_)
  refine wp_seq_k fun K5 hK5 => ?_
  refine wp_seq_k fun K6 hK6 => ?_
  refine c_region ?_
  refine s_op (o_move (v := (S t)) rfl ?_)
  refine s_op (o_slen Tryd.underlying9 rfl ?_)
  refine s_op (o_gtr (a := (t.length : Int)) (b := 4000) rfl rfl ?_)
  refine s_op (o_move (v := (.bool (decide (4000 < (t.length : Int))))) rfl ?_)
  by_cases h7 : 4000 < (t.length : Int)
  · -- 4000 < (t.length : Int)
    refine s_off (b' := true) 21 rfl (congrArg Value.bool (decide_eq_true h7)) rfl ?_
    refine s_off (b' := true) 21 rfl (congrArg Value.bool (decide_eq_true h7)) rfl ?_
    refine s_op (o_pick_t (u := (.bool true)) ((rfl : _ = _).trans (congrArg Value.bool (decide_eq_true h7))) rfl ?_)
    refine s_op (o_move (v := (.bool true)) rfl ?_)
    refine s_off (b' := true) 25 rfl rfl rfl ?_
    refine s_off (b' := true) 25 rfl rfl rfl ?_
    refine s_op (o_pick_t (u := (.bool true)) rfl rfl ?_)
    refine s_nil ?_
    refine t_norm (hK6 _ _ ?_)
    refine c_true rfl rfl ?_
    refine wp_seq_k fun K8 hK8 => ?_
    refine c_region ?_
    refine s_op (o_callf (vs := #[]) ca23 rfl (args0) (awake3_c hH4.all (hg.mono (seg_sub 1 rfl))) ?_)
    rintro _ w11 ⟨rfl, hX9⟩
    refine ⟨_, rfl, ?_⟩
    have hH10 := hX9.of_all
    refine s_op (o_assign (v := (.bool true)) rfl ?_)
    refine s_nil ?_
    refine t_norm (hK8 _ _ ?_)
    refine wp_ret ?_
    refine t_ret (c_ret1 Tryd.results9  (v := (.bool true)) rfl ?_)
    have hH12 : Has E w11 [R] := (hH10.front 1 rfl).first 1 rfl
    exact ⟨rfl, hH12⟩
  · -- not: 4000 < (t.length : Int)
    refine s_on 21 rfl (congrArg Value.bool (decide_eq_false h7)) (o_move (v := (.int .i64 pl)) rfl ?_)
    refine s_on 21 rfl (congrArg Value.bool (decide_eq_false h7)) (o_gtr (a := pl) (b := 1099511627776) rfl rfl ?_)
    refine s_op (o_pick_f (u := (.bool (decide (1099511627776 < pl)))) ((rfl : _ = _).trans (congrArg Value.bool (decide_eq_false h7))) rfl ?_)
    refine s_op (o_move (v := (.bool (decide (1099511627776 < pl)))) rfl ?_)
    by_cases h13 : 1099511627776 < pl
    · -- 1099511627776 < pl
      refine s_off (b' := true) 25 rfl (congrArg Value.bool (decide_eq_true h13)) rfl ?_
      refine s_off (b' := true) 25 rfl (congrArg Value.bool (decide_eq_true h13)) rfl ?_
      refine s_op (o_pick_t (u := (.bool true)) ((rfl : _ = _).trans (congrArg Value.bool (decide_eq_true h13))) rfl ?_)
      refine s_nil ?_
      refine t_norm (hK6 _ _ ?_)
      refine c_true rfl rfl ?_
      refine wp_seq_k fun K14 hK14 => ?_
      refine c_region ?_
      refine s_op (o_callf (vs := #[]) ca23 rfl (args0) (awake3_c hH4.all (hg.mono (seg_sub 1 rfl))) ?_)
      rintro _ w17 ⟨rfl, hX15⟩
      refine ⟨_, rfl, ?_⟩
      have hH16 := hX15.of_all
      refine s_op (o_assign (v := (.bool true)) rfl ?_)
      refine s_nil ?_
      refine t_norm (hK14 _ _ ?_)
      refine wp_ret ?_
      refine t_ret (c_ret1 Tryd.results9  (v := (.bool true)) rfl ?_)
      have hH18 : Has E w17 [R] := (hH16.front 1 rfl).first 1 rfl
      exact ⟨rfl, hH18⟩
    · -- not: 1099511627776 < pl
      refine s_on 25 rfl (congrArg Value.bool (decide_eq_false h13)) (o_move (v := (.int .i64 pl)) rfl ?_)
      refine s_on 25 rfl (congrArg Value.bool (decide_eq_false h13)) (o_lss (a := pl) (b := -1099511627776) rfl rfl ?_)
      refine s_op (o_pick_f (u := (.bool (decide (pl < -1099511627776)))) ((rfl : _ = _).trans (congrArg Value.bool (decide_eq_false h13))) rfl ?_)
      refine s_nil ?_
      refine t_norm (hK6 _ _ ?_)
      refine c_cond rfl (fun h19 => ?_) (fun h19 => ?_)
      · -- pl < -1099511627776
        refine wp_seq_k fun K20 hK20 => ?_
        refine c_region ?_
        refine s_op (o_callf (vs := #[]) ca23 rfl (args0) (awake3_c hH4.all (hg.mono (seg_sub 1 rfl))) ?_)
        rintro _ w23 ⟨rfl, hX21⟩
        refine ⟨_, rfl, ?_⟩
        have hH22 := hX21.of_all
        refine s_op (o_assign (v := (.bool true)) rfl ?_)
        refine s_nil ?_
        refine t_norm (hK20 _ _ ?_)
        refine wp_ret ?_
        refine t_ret (c_ret1 Tryd.results9  (v := (.bool true)) rfl ?_)
        have hH24 : Has E w23 [R] := (hH22.front 1 rfl).first 1 rfl
        exact ⟨rfl, hH24⟩
      · -- not: pl < -1099511627776
        refine wp_skip ?_
        refine t_norm (hK5 _ _ ?_)
        refine wp_seq_k fun K25 hK25 => ?_
        refine c_region ?_
        refine s_op (o_move (v := (.int .i64 re)) rfl ?_)
        refine s_op (o_move (v := (.int .i64 rc)) rfl ?_)
        refine s_op (o_sight (v := (.agg #[(.int .i64 re), (.int .i64 rc)])) (fun _ => by kernel_rfl) ?_)
        refine s_op (o_alloc (cs := #[(.int .i64 0), (.int .i64 0)]) ti51 rfl hH4 fun b26 w27 hH28 => ?_)
        refine s_eff (o_storeN (vs := [(.int .i64 re), (.int .i64 rc)]) (c' := #[(.int .i64 re), (.int .i64 rc)]) ti51 rfl rfl rfl rfl (by intro u hu; simp only [List.mem_cons, List.not_mem_nil, or_false] at hu; rcases hu with rfl | rfl <;> first | rfl) (by simp) (by kernel_rfl) (hH28.front 0 rfl) fun w29 hH30 => ?_)
        refine s_nil ?_
        refine t_norm (hK25 _ _ ?_)
        refine wp_seq_k fun K31 hK31 => ?_
        refine c_region ?_
        refine s_op (o_loadN (cs := [(.int .i64 re), (.int .i64 rc)]) Tryd.underlying51 rfl ti51 rfl hH30 (seg_sub 0 rfl) (CellsAt.one rfl) ?_)
        refine s_op (o_move (v := (S t)) rfl ?_)
        refine s_op (o_move (v := (.int .i64 pl)) rfl ?_)
        refine s_op (o_move (v := (.int .i64 ab)) rfl ?_)
        refine s_op (o_callf (vs := #[(.agg #[(.int .i64 re), (.int .i64 rc)]), (S t), (.int .i64 pl), (.int .i64 ab)]) ca28 rfl (args4 rfl rfl rfl rfl) (chain_c hH30.all (hg.mono (seg_sub 2 rfl)) t (by omega) re rc pl ab (by omega)) ?_)
        rintro _ w37 ⟨v32, s33, rfl, ho34, hX35⟩
        refine ⟨_, rfl, ?_⟩
        have hH36 : Has E w37 [s33, [Hp.one b26 (.cells #[(.int .i64 re), (.int .i64 rc)] 51 (0, 0))], [Hp.one b2 (.cells #[(.int .i64 f.ep), (.int .i64 f.pl), (.int .i64 f.gsn), (S f.data)] 43 (0, 0))], R] := hX35.of_all1
        refine s_op (o_move (v := (.tuple #[v32, (.int .i64 ((chainS re rc (t.length + 1) t pl ab).2))])) rfl ?_)
        refine s_op (o_extract (v := v32) rfl rfl ?_)
        refine s_op (o_extract (v := (.int .i64 ((chainS re rc (t.length + 1) t pl ab).2))) rfl rfl ?_)
        refine s_op (o_assign (v := v32) rfl ?_)
        refine s_op (o_assign (v := (.int .i64 ((chainS re rc (t.length + 1) t pl ab).2))) rfl ?_)
        refine s_nil ?_
        refine t_norm (hK31 _ _ ?_)
        refine wp_seq_k fun K38 hK38 => ?_
        refine c_region ?_
        refine s_op (o_move (v := (.int .i64 re)) rfl ?_)
        refine s_op (o_move (v := (.int .i64 rc)) rfl ?_)
        refine s_op (o_move (v := (S t)) rfl ?_)
        refine s_op (o_move (v := (.int .i64 pl)) rfl ?_)
        refine s_op (o_move (v := (.int .i64 ab)) rfl ?_)
        refine s_op (o_callf (vs := #[(.int .i64 re), (.int .i64 rc), (S t), (.int .i64 pl), (.int .i64 ab)]) ca29 rfl (args5 rfl rfl rfl rfl rfl) (refchain_c hH36.all t (by omega) re rc pl ab (by omega)) ?_)
        rintro _ w44 ⟨v39, s40, rfl, ho41, hX42⟩
        refine ⟨_, rfl, ?_⟩
        have hH43 : Has E w44 [s40, s33, [Hp.one b26 (.cells #[(.int .i64 re), (.int .i64 rc)] 51 (0, 0))], [Hp.one b2 (.cells #[(.int .i64 f.ep), (.int .i64 f.pl), (.int .i64 f.gsn), (S f.data)] 43 (0, 0))], R] := hX42.of_all1
        refine s_op (o_move (v := (.tuple #[v39, (.int .i64 ((chainS re rc (t.length + 1) t pl ab).2))])) rfl ?_)
        refine s_op (o_extract (v := v39) rfl rfl ?_)
        refine s_op (o_extract (v := (.int .i64 ((chainS re rc (t.length + 1) t pl ab).2))) rfl rfl ?_)
        refine s_op (o_assign (v := v39) rfl ?_)
        refine s_op (o_assign (v := (.int .i64 ((chainS re rc (t.length + 1) t pl ab).2))) rfl ?_)
        refine s_nil ?_
        refine t_norm (hK38 _ _ ?_)
        refine wp_seq_k fun K45 hK45 => ?_
        rcases Bool.eq_false_or_eq_true (sameF ((chainS re rc (t.length + 1) t pl ab).1) ((chainS re rc (t.length + 1) t pl ab).1)) with h46 | h46
        · -- (sameF ((chainS re rc (t.length + 1) t pl ab).1) ((chainS re rc (t.length + 1) t pl ab).1))
          by_cases h47 : (chainS re rc (t.length + 1) t pl ab).2 = (chainS re rc (t.length + 1) t pl ab).2
          · -- (chainS re rc (t.length + 1) t pl ab).2 = (chainS re rc (t.length + 1) t pl ab).2
            rcases Bool.eq_false_or_eq_true ((fitsF re rc pl ab f) == (fitsF re rc pl ab f)) with h48 | h48
            · -- (fitsF re rc pl ab f) == (fitsF re rc pl ab f)
              refine c_flow3 [s40, s33, [Hp.one b26 (.cells #[(.int .i64 re), (.int .i64 rc)] 51 (0, 0))], [Hp.one b2 (.cells #[(.int .i64 f.ep), (.int .i64 f.pl), (.int .i64 f.gsn), (S f.data)] 43 (0, 0))], R] (fun i_ => match i_ with | _ => []) (fun i_ v_ h_ m_ => match i_ with | 0 => v_ = v32 ∧ h_ = [] | 1 => ∃ (v49 : Value) (s50 : List Hp), v_ = v49 ∧ h_ = s50 ∧ (Own 43 4 v49 ((chainS re rc (t.length + 1) t pl ab).1).length (((chainS re rc (t.length + 1) t pl ab).1).flatMap frC) s50) | 2 => v_ = v39 ∧ h_ = [] | 3 => v_ = (.bool (sameF ((chainS re rc (t.length + 1) t pl ab).1) ((chainS re rc (t.length + 1) t pl ab).1))) ∧ h_ = [] | 4 => v_ = (.bool (sameF ((chainS re rc (t.length + 1) t pl ab).1) ((chainS re rc (t.length + 1) t pl ab).1))) ∧ h_ = [] | 5 => v_ = (.int .i64 ((chainS re rc (t.length + 1) t pl ab).2)) ∧ h_ = [] | 6 => v_ = (.int .i64 ((chainS re rc (t.length + 1) t pl ab).2)) ∧ h_ = [] | 7 => v_ = (.bool (decide ((chainS re rc (t.length + 1) t pl ab).2 = (chainS re rc (t.length + 1) t pl ab).2))) ∧ h_ = [] | 8 => v_ = (.bool (decide ((chainS re rc (t.length + 1) t pl ab).2 = (chainS re rc (t.length + 1) t pl ab).2))) ∧ h_ = [] | 9 => v_ = (.bool (decide ((chainS re rc (t.length + 1) t pl ab).2 = (chainS re rc (t.length + 1) t pl ab).2))) ∧ h_ = [] | 10 => v_ = (.agg #[(.int .i64 re), (.int .i64 rc)]) ∧ h_ = [] | 11 => v_ = (.agg #[(.int .i64 f.ep), (.int .i64 f.pl), (.int .i64 f.gsn), (S f.data)]) ∧ h_ = [] | 12 => v_ = (.int .i64 pl) ∧ h_ = [] | 13 => v_ = (.int .i64 ab) ∧ h_ = [] | 14 => v_ = (.bool (fitsF re rc pl ab f)) ∧ h_ = [] | 15 => v_ = (.int .i64 re) ∧ h_ = [] | 16 => v_ = (.int .i64 rc) ∧ h_ = [] | 17 => v_ = (.agg #[(.int .i64 f.ep), (.int .i64 f.pl), (.int .i64 f.gsn), (S f.data)]) ∧ h_ = [] | 18 => v_ = (.int .i64 pl) ∧ h_ = [] | 19 => v_ = (.int .i64 ab) ∧ h_ = [] | 20 => v_ = (.bool (fitsF re rc pl ab f)) ∧ h_ = [] | 21 => v_ = (.bool ((fitsF re rc pl ab f) == (fitsF re rc pl ab f))) ∧ h_ = [] | 22 => v_ = (.bool ((fitsF re rc pl ab f) == (fitsF re rc pl ab f))) ∧ h_ = [] | 23 => v_ = (.bool ((fitsF re rc pl ab f) == (fitsF re rc pl ab f))) ∧ h_ = [] | 24 => v_ = (.bool true) ∧ h_ = [] | 25 => v_ = (.bool true) ∧ h_ = [] | 26 => v_ = (.bool true) ∧ h_ = [] | _ => True) mixed (by kernel_rfl) (flow_has (cs := []) hH43 rfl) ?_ ?_
              · intro i_ o_ ho_ r' w' G hs_ ht
                match i_, ho_ with
                | 0, ho_ =>
                  obtain rfl := Option.some.inj ho_
                  have e14 : r' 14 = v32 := ht.was 14 (by kernel_rfl)
                  have hG := ht.has.drop
                  refine GOK.free rfl ?_
                  refine o_move (v := v32) e14 ?_
                  exact ⟨_, ⟨rfl, rfl⟩, hG⟩
                | 1, ho_ =>
                  obtain rfl := Option.some.inj ho_
                  obtain ⟨e50, eh0⟩ := (ht.done 0 _ rfl rfl).1
                  have hG := ht.has.drop
                  refine GOK.free rfl ?_
                  refine o_callf (vs := #[v32]) ca31 rfl (args1 e50) (told_c hG.all (l := (chainS re rc (t.length + 1) t pl ab).1) (ho34.sl.mono (ht.fr s33 (by simp))) (Nat.le_trans (chain_len _ _ _ _ _ _) (by omega))) ?_
                  rintro _ w54 ⟨v49, s50, rfl, ho51, hX52⟩
                  refine ⟨_, rfl, ?_⟩
                  have hH53 := hX52.of_all1
                  exact ⟨_, ⟨v49, s50, rfl, rfl, ho51⟩, hH53⟩
                | 2, ho_ =>
                  obtain rfl := Option.some.inj ho_
                  have e16 : r' 16 = v39 := ht.was 16 (by kernel_rfl)
                  have hG := ht.has.drop
                  refine GOK.free rfl ?_
                  refine o_move (v := v39) e16 ?_
                  exact ⟨_, ⟨rfl, rfl⟩, hG⟩
                | 3, ho_ =>
                  obtain rfl := Option.some.inj ho_
                  obtain ⟨v49, s50, e51, eh1, ho51⟩ := (ht.done 1 _ rfl rfl).1
                  obtain ⟨e52, eh2⟩ := (ht.done 2 _ rfl rfl).1
                  have hG := ht.has.drop
                  refine GOK.free rfl ?_
                  refine o_callf (vs := #[v49, v39]) ca30 rfl (args2 e51 e52) (same3_c hG.all (a := (chainS re rc (t.length + 1) t pl ab).1) (b := (chainS re rc (t.length + 1) t pl ab).1) (ho51.sl.mono (eh1 ▸ (ht.done 1 _ rfl rfl).2)) (ho41.sl.mono (ht.fr s40 (by simp)))) ?_
                  rintro _ w57 ⟨rfl, hX55⟩
                  refine ⟨_, rfl, ?_⟩
                  have hH56 := hX55.of_all
                  exact ⟨_, ⟨rfl, rfl⟩, hH56⟩
                | 4, ho_ =>
                  obtain rfl := Option.some.inj ho_
                  obtain ⟨v49, s50, e51, eh1, ho51⟩ := (ht.done 1 _ rfl rfl).1
                  obtain ⟨e53, eh3⟩ := (ht.done 3 _ rfl rfl).1
                  have hG := ht.has.drop
                  refine GOK.free rfl ?_
                  refine o_move (v := (.bool (sameF ((chainS re rc (t.length + 1) t pl ab).1) ((chainS re rc (t.length + 1) t pl ab).1)))) e53 ?_
                  exact ⟨_, ⟨rfl, rfl⟩, hG⟩
                | 5, ho_ =>
                  obtain rfl := Option.some.inj ho_
                  obtain ⟨v49, s50, e51, eh1, ho51⟩ := (ht.done 1 _ rfl rfl).1
                  obtain ⟨e54, eh4⟩ := (ht.done 4 _ rfl rfl).1
                  have e15 : r' 15 = (.int .i64 ((chainS re rc (t.length + 1) t pl ab).2)) := ht.was 15 (by kernel_rfl)
                  have hG := ht.has.drop
                  refine GOK.on rfl rfl (Eq.trans e54 (congrArg Value.bool h46)) ?_
                  refine o_move (v := (.int .i64 ((chainS re rc (t.length + 1) t pl ab).2))) e15 ?_
                  exact ⟨_, ⟨rfl, rfl⟩, hG⟩
                | 6, ho_ =>
                  obtain rfl := Option.some.inj ho_
                  obtain ⟨v49, s50, e51, eh1, ho51⟩ := (ht.done 1 _ rfl rfl).1
                  obtain ⟨e54, eh4⟩ := (ht.done 4 _ rfl rfl).1
                  have e17 : r' 17 = (.int .i64 ((chainS re rc (t.length + 1) t pl ab).2)) := ht.was 17 (by kernel_rfl)
                  have hG := ht.has.drop
                  refine GOK.on rfl rfl (Eq.trans e54 (congrArg Value.bool h46)) ?_
                  refine o_move (v := (.int .i64 ((chainS re rc (t.length + 1) t pl ab).2))) e17 ?_
                  exact ⟨_, ⟨rfl, rfl⟩, hG⟩
                | 7, ho_ =>
                  obtain rfl := Option.some.inj ho_
                  obtain ⟨v49, s50, e51, eh1, ho51⟩ := (ht.done 1 _ rfl rfl).1
                  obtain ⟨e54, eh4⟩ := (ht.done 4 _ rfl rfl).1
                  obtain ⟨e55, eh5⟩ := (ht.done 5 _ rfl rfl).1
                  obtain ⟨e56, eh6⟩ := (ht.done 6 _ rfl rfl).1
                  have hG := ht.has.drop
                  refine GOK.on rfl rfl (Eq.trans e54 (congrArg Value.bool h46)) ?_
                  refine o_eql (a := (chainS re rc (t.length + 1) t pl ab).2) (b := (chainS re rc (t.length + 1) t pl ab).2) e55 e56 ?_
                  exact ⟨_, ⟨rfl, rfl⟩, hG⟩
                | 8, ho_ =>
                  obtain rfl := Option.some.inj ho_
                  obtain ⟨v49, s50, e51, eh1, ho51⟩ := (ht.done 1 _ rfl rfl).1
                  obtain ⟨e54, eh4⟩ := (ht.done 4 _ rfl rfl).1
                  obtain ⟨e57, eh7⟩ := (ht.done 7 _ rfl rfl).1
                  have hG := ht.has.drop
                  refine GOK.free rfl ?_
                  refine o_pick_t (u := (.bool (decide ((chainS re rc (t.length + 1) t pl ab).2 = (chainS re rc (t.length + 1) t pl ab).2)))) ((e54 : _ = _).trans (congrArg Value.bool h46)) e57 ?_
                  exact ⟨_, ⟨rfl, rfl⟩, hG⟩
                | 9, ho_ =>
                  obtain rfl := Option.some.inj ho_
                  obtain ⟨v49, s50, e51, eh1, ho51⟩ := (ht.done 1 _ rfl rfl).1
                  obtain ⟨e58, eh8⟩ := (ht.done 8 _ rfl rfl).1
                  have hG := ht.has.drop
                  refine GOK.free rfl ?_
                  refine o_move (v := (.bool (decide ((chainS re rc (t.length + 1) t pl ab).2 = (chainS re rc (t.length + 1) t pl ab).2)))) e58 ?_
                  exact ⟨_, ⟨rfl, rfl⟩, hG⟩
                | 10, ho_ =>
                  obtain rfl := Option.some.inj ho_
                  obtain ⟨v49, s50, e51, eh1, ho51⟩ := (ht.done 1 _ rfl rfl).1
                  obtain ⟨e59, eh9⟩ := (ht.done 9 _ rfl rfl).1
                  have e13 : r' 13 = (.pointer (some ⟨b26, 0, none⟩)) := ht.was 13 (by kernel_rfl)
                  have hG := ht.has.drop
                  refine GOK.on rfl rfl (Eq.trans e59 (congrArg Value.bool (decide_eq_true h47))) ?_
                  refine o_loadN (cs := [(.int .i64 re), (.int .i64 rc)]) Tryd.underlying51 rfl ti51 e13 hG (ht.fr [Hp.one b26 (.cells #[(.int .i64 re), (.int .i64 rc)] 51 (0, 0))] (by simp)) (CellsAt.one rfl) ?_
                  exact ⟨_, ⟨rfl, rfl⟩, hG⟩
                | 11, ho_ =>
                  obtain rfl := Option.some.inj ho_
                  obtain ⟨v49, s50, e51, eh1, ho51⟩ := (ht.done 1 _ rfl rfl).1
                  obtain ⟨e59, eh9⟩ := (ht.done 9 _ rfl rfl).1
                  have e11 : r' 11 = (.pointer (some ⟨b2, 0, none⟩)) := ht.was 11 (by kernel_rfl)
                  have hG := ht.has.drop
                  refine GOK.on rfl rfl (Eq.trans e59 (congrArg Value.bool (decide_eq_true h47))) ?_
                  refine o_loadN (cs := [(.int .i64 f.ep), (.int .i64 f.pl), (.int .i64 f.gsn), (S f.data)]) Tryd.underlying43 rfl ti43 e11 hG (ht.fr [Hp.one b2 (.cells #[(.int .i64 f.ep), (.int .i64 f.pl), (.int .i64 f.gsn), (S f.data)] 43 (0, 0))] (by simp)) (CellsAt.one rfl) ?_
                  exact ⟨_, ⟨rfl, rfl⟩, hG⟩
                | 12, ho_ =>
                  obtain rfl := Option.some.inj ho_
                  obtain ⟨v49, s50, e51, eh1, ho51⟩ := (ht.done 1 _ rfl rfl).1
                  obtain ⟨e59, eh9⟩ := (ht.done 9 _ rfl rfl).1
                  have e3 : r' 3 = (.int .i64 pl) := ht.was 3 (by kernel_rfl)
                  have hG := ht.has.drop
                  refine GOK.on rfl rfl (Eq.trans e59 (congrArg Value.bool (decide_eq_true h47))) ?_
                  refine o_move (v := (.int .i64 pl)) e3 ?_
                  exact ⟨_, ⟨rfl, rfl⟩, hG⟩
                | 13, ho_ =>
                  obtain rfl := Option.some.inj ho_
                  obtain ⟨v49, s50, e51, eh1, ho51⟩ := (ht.done 1 _ rfl rfl).1
                  obtain ⟨e59, eh9⟩ := (ht.done 9 _ rfl rfl).1
                  have e4 : r' 4 = (.int .i64 ab) := ht.was 4 (by kernel_rfl)
                  have hG := ht.has.drop
                  refine GOK.on rfl rfl (Eq.trans e59 (congrArg Value.bool (decide_eq_true h47))) ?_
                  refine o_move (v := (.int .i64 ab)) e4 ?_
                  exact ⟨_, ⟨rfl, rfl⟩, hG⟩
                | 14, ho_ =>
                  obtain rfl := Option.some.inj ho_
                  obtain ⟨v49, s50, e51, eh1, ho51⟩ := (ht.done 1 _ rfl rfl).1
                  obtain ⟨e59, eh9⟩ := (ht.done 9 _ rfl rfl).1
                  obtain ⟨e60, eh10⟩ := (ht.done 10 _ rfl rfl).1
                  obtain ⟨e61, eh11⟩ := (ht.done 11 _ rfl rfl).1
                  obtain ⟨e62, eh12⟩ := (ht.done 12 _ rfl rfl).1
                  obtain ⟨e63, eh13⟩ := (ht.done 13 _ rfl rfl).1
                  have hG := ht.has.drop
                  refine GOK.on rfl rfl (Eq.trans e59 (congrArg Value.bool (decide_eq_true h47))) ?_
                  refine o_callf (vs := #[(.agg #[(.int .i64 re), (.int .i64 rc)]), (.agg #[(.int .i64 f.ep), (.int .i64 f.pl), (.int .i64 f.gsn), (S f.data)]), (.int .i64 pl), (.int .i64 ab)]) ca32 rfl (args4 e60 e61 e62 e63) (ffits_c hG.all f hfl re rc pl ab) ?_
                  rintro _ w60 ⟨rfl, hX58⟩
                  refine ⟨_, rfl, ?_⟩
                  have hH59 := hX58.of_all
                  exact ⟨_, ⟨rfl, rfl⟩, hH59⟩
                | 15, ho_ =>
                  obtain rfl := Option.some.inj ho_
                  obtain ⟨v49, s50, e51, eh1, ho51⟩ := (ht.done 1 _ rfl rfl).1
                  obtain ⟨e59, eh9⟩ := (ht.done 9 _ rfl rfl).1
                  have e0 : r' 0 = (.int .i64 re) := ht.was 0 (by kernel_rfl)
                  have hG := ht.has.drop
                  refine GOK.on rfl rfl (Eq.trans e59 (congrArg Value.bool (decide_eq_true h47))) ?_
                  refine o_move (v := (.int .i64 re)) e0 ?_
                  exact ⟨_, ⟨rfl, rfl⟩, hG⟩
                | 16, ho_ =>
                  obtain rfl := Option.some.inj ho_
                  obtain ⟨v49, s50, e51, eh1, ho51⟩ := (ht.done 1 _ rfl rfl).1
                  obtain ⟨e59, eh9⟩ := (ht.done 9 _ rfl rfl).1
                  have e1 : r' 1 = (.int .i64 rc) := ht.was 1 (by kernel_rfl)
                  have hG := ht.has.drop
                  refine GOK.on rfl rfl (Eq.trans e59 (congrArg Value.bool (decide_eq_true h47))) ?_
                  refine o_move (v := (.int .i64 rc)) e1 ?_
                  exact ⟨_, ⟨rfl, rfl⟩, hG⟩
                | 17, ho_ =>
                  obtain rfl := Option.some.inj ho_
                  obtain ⟨v49, s50, e51, eh1, ho51⟩ := (ht.done 1 _ rfl rfl).1
                  obtain ⟨e59, eh9⟩ := (ht.done 9 _ rfl rfl).1
                  have e11 : r' 11 = (.pointer (some ⟨b2, 0, none⟩)) := ht.was 11 (by kernel_rfl)
                  have hG := ht.has.drop
                  refine GOK.on rfl rfl (Eq.trans e59 (congrArg Value.bool (decide_eq_true h47))) ?_
                  refine o_loadN (cs := [(.int .i64 f.ep), (.int .i64 f.pl), (.int .i64 f.gsn), (S f.data)]) Tryd.underlying43 rfl ti43 e11 hG (ht.fr [Hp.one b2 (.cells #[(.int .i64 f.ep), (.int .i64 f.pl), (.int .i64 f.gsn), (S f.data)] 43 (0, 0))] (by simp)) (CellsAt.one rfl) ?_
                  exact ⟨_, ⟨rfl, rfl⟩, hG⟩
                | 18, ho_ =>
                  obtain rfl := Option.some.inj ho_
                  obtain ⟨v49, s50, e51, eh1, ho51⟩ := (ht.done 1 _ rfl rfl).1
                  obtain ⟨e59, eh9⟩ := (ht.done 9 _ rfl rfl).1
                  have e3 : r' 3 = (.int .i64 pl) := ht.was 3 (by kernel_rfl)
                  have hG := ht.has.drop
                  refine GOK.on rfl rfl (Eq.trans e59 (congrArg Value.bool (decide_eq_true h47))) ?_
                  refine o_move (v := (.int .i64 pl)) e3 ?_
                  exact ⟨_, ⟨rfl, rfl⟩, hG⟩
                | 19, ho_ =>
                  obtain rfl := Option.some.inj ho_
                  obtain ⟨v49, s50, e51, eh1, ho51⟩ := (ht.done 1 _ rfl rfl).1
                  obtain ⟨e59, eh9⟩ := (ht.done 9 _ rfl rfl).1
                  have e4 : r' 4 = (.int .i64 ab) := ht.was 4 (by kernel_rfl)
                  have hG := ht.has.drop
                  refine GOK.on rfl rfl (Eq.trans e59 (congrArg Value.bool (decide_eq_true h47))) ?_
                  refine o_move (v := (.int .i64 ab)) e4 ?_
                  exact ⟨_, ⟨rfl, rfl⟩, hG⟩
                | 20, ho_ =>
                  obtain rfl := Option.some.inj ho_
                  obtain ⟨v49, s50, e51, eh1, ho51⟩ := (ht.done 1 _ rfl rfl).1
                  obtain ⟨e59, eh9⟩ := (ht.done 9 _ rfl rfl).1
                  obtain ⟨e65, eh15⟩ := (ht.done 15 _ rfl rfl).1
                  obtain ⟨e66, eh16⟩ := (ht.done 16 _ rfl rfl).1
                  obtain ⟨e67, eh17⟩ := (ht.done 17 _ rfl rfl).1
                  obtain ⟨e68, eh18⟩ := (ht.done 18 _ rfl rfl).1
                  obtain ⟨e69, eh19⟩ := (ht.done 19 _ rfl rfl).1
                  have hG := ht.has.drop
                  refine GOK.on rfl rfl (Eq.trans e59 (congrArg Value.bool (decide_eq_true h47))) ?_
                  refine o_callf (vs := #[(.int .i64 re), (.int .i64 rc), (.agg #[(.int .i64 f.ep), (.int .i64 f.pl), (.int .i64 f.gsn), (S f.data)]), (.int .i64 pl), (.int .i64 ab)]) ca33 rfl (args5 e65 e66 e67 e68 e69) (reffits_c hG.all f hfl re rc pl ab) ?_
                  rintro _ w63 ⟨rfl, hX61⟩
                  refine ⟨_, rfl, ?_⟩
                  have hH62 := hX61.of_all
                  exact ⟨_, ⟨rfl, rfl⟩, hH62⟩
                | 21, ho_ =>
                  obtain rfl := Option.some.inj ho_
                  obtain ⟨v49, s50, e51, eh1, ho51⟩ := (ht.done 1 _ rfl rfl).1
                  obtain ⟨e59, eh9⟩ := (ht.done 9 _ rfl rfl).1
                  obtain ⟨e64, eh14⟩ := (ht.done 14 _ rfl rfl).1
                  obtain ⟨e70, eh20⟩ := (ht.done 20 _ rfl rfl).1
                  have hG := ht.has.drop
                  refine GOK.on rfl rfl (Eq.trans e59 (congrArg Value.bool (decide_eq_true h47))) ?_
                  refine o_eqlb Tryd.underlying4 e64 e70 ?_
                  exact ⟨_, ⟨rfl, rfl⟩, hG⟩
                | 22, ho_ =>
                  obtain rfl := Option.some.inj ho_
                  obtain ⟨v49, s50, e51, eh1, ho51⟩ := (ht.done 1 _ rfl rfl).1
                  obtain ⟨e59, eh9⟩ := (ht.done 9 _ rfl rfl).1
                  obtain ⟨e71, eh21⟩ := (ht.done 21 _ rfl rfl).1
                  have hG := ht.has.drop
                  refine GOK.free rfl ?_
                  refine o_pick_t (u := (.bool ((fitsF re rc pl ab f) == (fitsF re rc pl ab f)))) ((e59 : _ = _).trans (congrArg Value.bool (decide_eq_true h47))) e71 ?_
                  exact ⟨_, ⟨rfl, rfl⟩, hG⟩
                | 23, ho_ =>
                  obtain rfl := Option.some.inj ho_
                  obtain ⟨v49, s50, e51, eh1, ho51⟩ := (ht.done 1 _ rfl rfl).1
                  obtain ⟨e72, eh22⟩ := (ht.done 22 _ rfl rfl).1
                  have hG := ht.has.drop
                  refine GOK.free rfl ?_
                  refine o_move (v := (.bool ((fitsF re rc pl ab f) == (fitsF re rc pl ab f)))) e72 ?_
                  exact ⟨_, ⟨rfl, rfl⟩, hG⟩
                | 24, ho_ =>
                  obtain rfl := Option.some.inj ho_
                  obtain ⟨v49, s50, e51, eh1, ho51⟩ := (ht.done 1 _ rfl rfl).1
                  obtain ⟨e73, eh23⟩ := (ht.done 23 _ rfl rfl).1
                  have hG := ht.has.drop
                  refine GOK.on rfl rfl (Eq.trans e73 (congrArg Value.bool h48)) ?_
                  refine o_callf (vs := #[]) ca23 rfl (args0) (awake3_c hG.all (hg.mono (ht.fr R (by simp)))) ?_
                  rintro _ w66 ⟨rfl, hX64⟩
                  refine ⟨_, rfl, ?_⟩
                  have hH65 := hX64.of_all
                  exact ⟨_, ⟨rfl, rfl⟩, hH65⟩
                | 25, ho_ =>
                  obtain rfl := Option.some.inj ho_
                  obtain ⟨v49, s50, e51, eh1, ho51⟩ := (ht.done 1 _ rfl rfl).1
                  obtain ⟨e73, eh23⟩ := (ht.done 23 _ rfl rfl).1
                  obtain ⟨e74, eh24⟩ := (ht.done 24 _ rfl rfl).1
                  have hG := ht.has.drop
                  refine GOK.free rfl ?_
                  refine o_pick_t (u := (.bool true)) ((e73 : _ = _).trans (congrArg Value.bool h48)) e74 ?_
                  exact ⟨_, ⟨rfl, rfl⟩, hG⟩
                | 26, ho_ =>
                  obtain rfl := Option.some.inj ho_
                  obtain ⟨v49, s50, e51, eh1, ho51⟩ := (ht.done 1 _ rfl rfl).1
                  obtain ⟨e75, eh25⟩ := (ht.done 25 _ rfl rfl).1
                  have hG := ht.has.drop
                  refine GOK.free rfl ?_
                  refine o_assign (v := (.bool true)) e75 ?_
                  exact ⟨_, ⟨rfl, rfl⟩, hG⟩
                | i_ + 27, ho_ => exact absurd ho_ (by simp)
              · intro vs67 hs68 w69 hT70 hH71
                obtain ⟨e0_, eh0_⟩ := hT70 0 _ rfl
                obtain ⟨v49, s50, e1_, eh1_, ho51⟩ := hT70 1 _ rfl
                obtain ⟨e2_, eh2_⟩ := hT70 2 _ rfl
                obtain ⟨e3_, eh3_⟩ := hT70 3 _ rfl
                obtain ⟨e4_, eh4_⟩ := hT70 4 _ rfl
                obtain ⟨e5_, eh5_⟩ := hT70 5 _ rfl
                obtain ⟨e6_, eh6_⟩ := hT70 6 _ rfl
                obtain ⟨e7_, eh7_⟩ := hT70 7 _ rfl
                obtain ⟨e8_, eh8_⟩ := hT70 8 _ rfl
                obtain ⟨e9_, eh9_⟩ := hT70 9 _ rfl
                obtain ⟨e10_, eh10_⟩ := hT70 10 _ rfl
                obtain ⟨e11_, eh11_⟩ := hT70 11 _ rfl
                obtain ⟨e12_, eh12_⟩ := hT70 12 _ rfl
                obtain ⟨e13_, eh13_⟩ := hT70 13 _ rfl
                obtain ⟨e14_, eh14_⟩ := hT70 14 _ rfl
                obtain ⟨e15_, eh15_⟩ := hT70 15 _ rfl
                obtain ⟨e16_, eh16_⟩ := hT70 16 _ rfl
                obtain ⟨e17_, eh17_⟩ := hT70 17 _ rfl
                obtain ⟨e18_, eh18_⟩ := hT70 18 _ rfl
                obtain ⟨e19_, eh19_⟩ := hT70 19 _ rfl
                obtain ⟨e20_, eh20_⟩ := hT70 20 _ rfl
                obtain ⟨e21_, eh21_⟩ := hT70 21 _ rfl
                obtain ⟨e22_, eh22_⟩ := hT70 22 _ rfl
                obtain ⟨e23_, eh23_⟩ := hT70 23 _ rfl
                obtain ⟨e24_, eh24_⟩ := hT70 24 _ rfl
                obtain ⟨e25_, eh25_⟩ := hT70 25 _ rfl
                obtain ⟨e26_, eh26_⟩ := hT70 26 _ rfl
                have hH72 : Has E w69 ([s40, s33, [Hp.one b26 (.cells #[(.int .i64 re), (.int .i64 rc)] 51 (0, 0))], [Hp.one b2 (.cells #[(.int .i64 f.ep), (.int .i64 f.pl), (.int .i64 f.gsn), (S f.data)] 43 (0, 0))], R] ++ [s50]) := flow_back (cs := [s50]) hH71 (by show (hs68 0 ++ (hs68 1 ++ (hs68 2 ++ (hs68 3 ++ (hs68 4 ++ (hs68 5 ++ (hs68 6 ++ (hs68 7 ++ (hs68 8 ++ (hs68 9 ++ (hs68 10 ++ (hs68 11 ++ (hs68 12 ++ (hs68 13 ++ (hs68 14 ++ (hs68 15 ++ (hs68 16 ++ (hs68 17 ++ (hs68 18 ++ (hs68 19 ++ (hs68 20 ++ (hs68 21 ++ (hs68 22 ++ (hs68 23 ++ (hs68 24 ++ (hs68 25 ++ (hs68 26 ++ []))))))))))))))))))))))))))) = _; rw [eh0_, eh1_, eh2_, eh3_, eh4_, eh5_, eh6_, eh7_, eh8_, eh9_, eh10_, eh11_, eh12_, eh13_, eh14_, eh15_, eh16_, eh17_, eh18_, eh19_, eh20_, eh21_, eh22_, eh23_, eh24_, eh25_, eh26_]; rfl)
                generalize hr74 : puts vs67 _ 0 _ = r73
                have e75_0 : r73 0 = (.int .i64 re) := by rw [← hr74]; exact rfl
                have e75_1 : r73 1 = (.int .i64 rc) := by rw [← hr74]; exact rfl
                have e75_2 : r73 2 = (S t) := by rw [← hr74]; exact rfl
                have e75_3 : r73 3 = (.int .i64 pl) := by rw [← hr74]; exact rfl
                have e75_4 : r73 4 = (.int .i64 ab) := by rw [← hr74]; exact rfl
                have e75_5 : r73 5 = (.agg #[(.int .i64 f.ep), (.int .i64 f.pl), (.int .i64 f.gsn), (S f.data)]) := by rw [← hr74]; exact rfl
                have e75_11 : r73 11 = (.pointer (some ⟨b2, 0, none⟩)) := by rw [← hr74]; exact rfl
                have e75_12 : r73 12 = (.bool true) := by rw [← hr74]; exact e26_
                have e75_13 : r73 13 = (.pointer (some ⟨b26, 0, none⟩)) := by rw [← hr74]; exact rfl
                have e75_14 : r73 14 = v32 := by rw [← hr74]; exact rfl
                have e75_15 : r73 15 = (.int .i64 ((chainS re rc (t.length + 1) t pl ab).2)) := by rw [← hr74]; exact rfl
                have e75_16 : r73 16 = v39 := by rw [← hr74]; exact rfl
                have e75_17 : r73 17 = (.int .i64 ((chainS re rc (t.length + 1) t pl ab).2)) := by rw [← hr74]; exact rfl
                have e75_28 : r73 28 = (.bool (decide (pl < -1099511627776))) := by rw [← hr74]; exact rfl
                refine t_norm (hK45 _ _ ?_)
                refine wp_ret ?_
                refine c_ret1 Tryd.results9  (v := (.bool true)) e75_12 ?_
                have hH76 : Has E w69 [R] := (hH72.front 4 rfl).first 1 rfl
                exact ⟨rfl, hH76⟩
            · -- not: (fitsF re rc pl ab f) == (fitsF re rc pl ab f)
              simp at h48
          · -- not: (chainS re rc (t.length + 1) t pl ab).2 = (chainS re rc (t.length + 1) t pl ab).2
            exact absurd rfl h47
        · -- not: (sameF ((chainS re rc (t.length + 1) t pl ab).1) ((chainS re rc (t.length + 1) t pl ab).1))
          exact absurd (sameF_iff.2 rfl) (by rw [h46]; decide)
end Go.Q
