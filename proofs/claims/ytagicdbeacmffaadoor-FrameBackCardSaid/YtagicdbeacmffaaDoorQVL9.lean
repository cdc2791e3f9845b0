/-
  Parts of a walk: what functions of the program compute, each told by a theorem.
-/
import Derived.Test.YtagicdbeacmffaaDoorQV12
import Derived.Test.YtagicdbeacmffaaDoorQV14
import Derived.Test.YtagicdbeacmffaaDoorQFrame6
set_option linter.unusedVariables false
set_option linter.unusedSimpArgs false
namespace Go.Q
open Go.Proofs
set_option linter.unusedVariables false
set_option maxRecDepth 100000
attribute [local irreducible] wpList OK Code.wp
theorem chainN_c {E w : World} {R : List Hp} (hH : Has E w [R]) (hg : CellsAt R 0 0 nibV) (t : List UInt8) (htl : t.length ≤ 1000000) (re rc pl ab : Int) (hpl0 : -4000000000000 ≤ pl ∧ pl ≤ 4000000000000) :
    Calls Tryd.prog 28 #[(.agg #[(.int .i64 re), (.int .i64 rc)]), (S t), (.int .i64 pl), (.int .i64 ab)] w fun e w' => ∃ v' hs', e = .returned (.tuple #[v', .int .i64 (chN re rc t pl ab).2]) ∧ Own 40 4 v' (chN re rc t pl ab).1.length ((chN re rc t pl ab).1.flatMap frC) hs' ∧ Has E w' [hs', R] :=
  chain_c hH hg t htl re rc pl ab hpl0
set_option maxHeartbeats 4000000 in
theorem FrameBack_c {E w : World} {R : List Hp} (hH : Has E w [R]) (hg : CellsAt R 0 0 nibV) (ep pl : Int) {v : Value} {dl : List (List UInt8)} (hv : Sl R 1 v dl.length (dl.map S)) (hlb : ∀ x ∈ dl, x.length ≤ 9223372036854775807) (kk : Int) (hkk : -9223372036854775808 ≤ kk ∧ kk ≤ 9223372036854775807) :
    Calls Tryd.prog 10 #[(.int .i64 ep), (.int .i64 pl), v, (.int .i64 kk)] w fun e w' => e = .returned (.bool true) ∧ Has E w' [R] := by
  have hn_ := hv.le
  refine c_enter (args := [(.int .i64 ep), (.int .i64 pl), v, (.int .i64 kk)]) Tryd.func10 rfl Tryd.ntmps10 (by simp) ?_
  refine wp_seq_k fun K1 hK1 => ?_
  refine c_region ?_
  refine s_op (o_assign (v := (.bool false)) rfl ?_)
  refine s_nil ?_
  refine t_norm (hK1 _ _ ?_)
  refine wp_seq_k fun K2 hK2 => ?_
  refine wp_seq_k fun K3 hK3 => ?_
  refine c_region ?_
  refine s_op (o_move (v := v) rfl ?_)
  refine s_op (o_lenS Tryd.underlying22 rfl hv ?_)
  refine s_op (o_eql (a := ((dl.length : Nat) : Int)) (b := 0) rfl rfl ?_)
  refine s_op (o_move (v := (.bool (decide (((dl.length : Nat) : Int) = 0)))) rfl ?_)
  by_cases h4 : ((dl.length : Nat) : Int) = 0
  · -- ((dl.length : Nat) : Int) = 0
    refine s_off (b' := true) 21 rfl (congrArg Value.bool (decide_eq_true h4)) rfl ?_
    refine s_off (b' := true) 21 rfl (congrArg Value.bool (decide_eq_true h4)) rfl ?_
    refine s_off (b' := true) 21 rfl (congrArg Value.bool (decide_eq_true h4)) rfl ?_
    refine s_op (o_pick_t (u := (.bool true)) ((rfl : _ = _).trans (congrArg Value.bool (decide_eq_true h4))) rfl ?_)
    refine s_op (o_move (v := (.bool true)) rfl ?_)
    refine s_off (b' := true) 26 rfl rfl rfl ?_
    refine s_off (b' := true) 26 rfl rfl rfl ?_
    refine s_op (o_pick_t (u := (.bool true)) rfl rfl ?_)
    refine s_op (o_move (v := (.bool true)) rfl ?_)
    refine s_off (b' := true) 30 rfl rfl rfl ?_
    refine s_off (b' := true) 30 rfl rfl rfl ?_
    refine s_op (o_pick_t (u := (.bool true)) rfl rfl ?_)
    refine s_op (o_move (v := (.bool true)) rfl ?_)
    refine s_off (b' := true) 34 rfl rfl rfl ?_
    refine s_off (b' := true) 34 rfl rfl rfl ?_
    refine s_op (o_pick_t (u := (.bool true)) rfl rfl ?_)
    refine s_op (o_move (v := (.bool true)) rfl ?_)
    refine s_off (b' := true) 38 rfl rfl rfl ?_
    refine s_off (b' := true) 38 rfl rfl rfl ?_
    refine s_op (o_pick_t (u := (.bool true)) rfl rfl ?_)
    refine s_nil ?_
    refine t_norm (hK3 _ _ ?_)
    refine c_true rfl rfl ?_
    refine wp_seq_k fun K5 hK5 => ?_
    refine c_region ?_
    refine s_op (o_callf (vs := #[]) ca23 rfl (args0) (awake3_c hH.all (hg.mono (seg_sub 0 rfl))) ?_)
    rintro _ w8 ⟨rfl, hX6⟩
    refine ⟨_, rfl, ?_⟩
    have hH7 := hX6.of_all
    refine s_op (o_assign (v := (.bool true)) rfl ?_)
    refine s_nil ?_
    refine t_norm (hK5 _ _ ?_)
    refine wp_ret ?_
    refine t_ret (c_ret1 Tryd.results10  (v := (.bool true)) rfl ?_)
    exact ⟨rfl, hH7⟩
  · -- not: ((dl.length : Nat) : Int) = 0
    refine s_on 21 rfl (congrArg Value.bool (decide_eq_false h4)) (o_move (v := v) rfl ?_)
    refine s_on 21 rfl (congrArg Value.bool (decide_eq_false h4)) (o_lenS Tryd.underlying22 rfl hv ?_)
    refine s_on 21 rfl (congrArg Value.bool (decide_eq_false h4)) (o_gtr (a := ((dl.length : Nat) : Int)) (b := 30) rfl rfl ?_)
    refine s_op (o_pick_f (u := (.bool (decide (30 < ((dl.length : Nat) : Int))))) ((rfl : _ = _).trans (congrArg Value.bool (decide_eq_false h4))) rfl ?_)
    refine s_op (o_move (v := (.bool (decide (30 < ((dl.length : Nat) : Int))))) rfl ?_)
    by_cases h9 : 30 < ((dl.length : Nat) : Int)
    · -- 30 < ((dl.length : Nat) : Int)
      refine s_off (b' := true) 26 rfl (congrArg Value.bool (decide_eq_true h9)) rfl ?_
      refine s_off (b' := true) 26 rfl (congrArg Value.bool (decide_eq_true h9)) rfl ?_
      refine s_op (o_pick_t (u := (.bool true)) ((rfl : _ = _).trans (congrArg Value.bool (decide_eq_true h9))) rfl ?_)
      refine s_op (o_move (v := (.bool true)) rfl ?_)
      refine s_off (b' := true) 30 rfl rfl rfl ?_
      refine s_off (b' := true) 30 rfl rfl rfl ?_
      refine s_op (o_pick_t (u := (.bool true)) rfl rfl ?_)
      refine s_op (o_move (v := (.bool true)) rfl ?_)
      refine s_off (b' := true) 34 rfl rfl rfl ?_
      refine s_off (b' := true) 34 rfl rfl rfl ?_
      refine s_op (o_pick_t (u := (.bool true)) rfl rfl ?_)
      refine s_op (o_move (v := (.bool true)) rfl ?_)
      refine s_off (b' := true) 38 rfl rfl rfl ?_
      refine s_off (b' := true) 38 rfl rfl rfl ?_
      refine s_op (o_pick_t (u := (.bool true)) rfl rfl ?_)
      refine s_nil ?_
      refine t_norm (hK3 _ _ ?_)
      refine c_true rfl rfl ?_
      refine wp_seq_k fun K10 hK10 => ?_
      refine c_region ?_
      refine s_op (o_callf (vs := #[]) ca23 rfl (args0) (awake3_c hH.all (hg.mono (seg_sub 0 rfl))) ?_)
      rintro _ w13 ⟨rfl, hX11⟩
      refine ⟨_, rfl, ?_⟩
      have hH12 := hX11.of_all
      refine s_op (o_assign (v := (.bool true)) rfl ?_)
      refine s_nil ?_
      refine t_norm (hK10 _ _ ?_)
      refine wp_ret ?_
      refine t_ret (c_ret1 Tryd.results10  (v := (.bool true)) rfl ?_)
      exact ⟨rfl, hH12⟩
    · -- not: 30 < ((dl.length : Nat) : Int)
      refine s_on 26 rfl (congrArg Value.bool (decide_eq_false h9)) (o_move (v := (.int .i64 pl)) rfl ?_)
      refine s_on 26 rfl (congrArg Value.bool (decide_eq_false h9)) (o_lss (a := pl) (b := 0) rfl rfl ?_)
      refine s_op (o_pick_f (u := (.bool (decide (pl < 0)))) ((rfl : _ = _).trans (congrArg Value.bool (decide_eq_false h9))) rfl ?_)
      refine s_op (o_move (v := (.bool (decide (pl < 0)))) rfl ?_)
      by_cases h14 : pl < 0
      · -- pl < 0
        refine s_off (b' := true) 30 rfl (congrArg Value.bool (decide_eq_true h14)) rfl ?_
        refine s_off (b' := true) 30 rfl (congrArg Value.bool (decide_eq_true h14)) rfl ?_
        refine s_op (o_pick_t (u := (.bool true)) ((rfl : _ = _).trans (congrArg Value.bool (decide_eq_true h14))) rfl ?_)
        refine s_op (o_move (v := (.bool true)) rfl ?_)
        refine s_off (b' := true) 34 rfl rfl rfl ?_
        refine s_off (b' := true) 34 rfl rfl rfl ?_
        refine s_op (o_pick_t (u := (.bool true)) rfl rfl ?_)
        refine s_op (o_move (v := (.bool true)) rfl ?_)
        refine s_off (b' := true) 38 rfl rfl rfl ?_
        refine s_off (b' := true) 38 rfl rfl rfl ?_
        refine s_op (o_pick_t (u := (.bool true)) rfl rfl ?_)
        refine s_nil ?_
        refine t_norm (hK3 _ _ ?_)
        refine c_true rfl rfl ?_
        refine wp_seq_k fun K15 hK15 => ?_
        refine c_region ?_
        refine s_op (o_callf (vs := #[]) ca23 rfl (args0) (awake3_c hH.all (hg.mono (seg_sub 0 rfl))) ?_)
        rintro _ w18 ⟨rfl, hX16⟩
        refine ⟨_, rfl, ?_⟩
        have hH17 := hX16.of_all
        refine s_op (o_assign (v := (.bool true)) rfl ?_)
        refine s_nil ?_
        refine t_norm (hK15 _ _ ?_)
        refine wp_ret ?_
        refine t_ret (c_ret1 Tryd.results10  (v := (.bool true)) rfl ?_)
        exact ⟨rfl, hH17⟩
      · -- not: pl < 0
        refine s_on 30 rfl (congrArg Value.bool (decide_eq_false h14)) (o_move (v := (.int .i64 pl)) rfl ?_)
        refine s_on 30 rfl (congrArg Value.bool (decide_eq_false h14)) (o_gtr (a := pl) (b := 1099511627776) rfl rfl ?_)
        refine s_op (o_pick_f (u := (.bool (decide (1099511627776 < pl)))) ((rfl : _ = _).trans (congrArg Value.bool (decide_eq_false h14))) rfl ?_)
        refine s_op (o_move (v := (.bool (decide (1099511627776 < pl)))) rfl ?_)
        by_cases h19 : 1099511627776 < pl
        · -- 1099511627776 < pl
          refine s_off (b' := true) 34 rfl (congrArg Value.bool (decide_eq_true h19)) rfl ?_
          refine s_off (b' := true) 34 rfl (congrArg Value.bool (decide_eq_true h19)) rfl ?_
          refine s_op (o_pick_t (u := (.bool true)) ((rfl : _ = _).trans (congrArg Value.bool (decide_eq_true h19))) rfl ?_)
          refine s_op (o_move (v := (.bool true)) rfl ?_)
          refine s_off (b' := true) 38 rfl rfl rfl ?_
          refine s_off (b' := true) 38 rfl rfl rfl ?_
          refine s_op (o_pick_t (u := (.bool true)) rfl rfl ?_)
          refine s_nil ?_
          refine t_norm (hK3 _ _ ?_)
          refine c_true rfl rfl ?_
          refine wp_seq_k fun K20 hK20 => ?_
          refine c_region ?_
          refine s_op (o_callf (vs := #[]) ca23 rfl (args0) (awake3_c hH.all (hg.mono (seg_sub 0 rfl))) ?_)
          rintro _ w23 ⟨rfl, hX21⟩
          refine ⟨_, rfl, ?_⟩
          have hH22 := hX21.of_all
          refine s_op (o_assign (v := (.bool true)) rfl ?_)
          refine s_nil ?_
          refine t_norm (hK20 _ _ ?_)
          refine wp_ret ?_
          refine t_ret (c_ret1 Tryd.results10  (v := (.bool true)) rfl ?_)
          exact ⟨rfl, hH22⟩
        · -- not: 1099511627776 < pl
          refine s_on 34 rfl (congrArg Value.bool (decide_eq_false h19)) (o_move (v := (.int .i64 ep)) rfl ?_)
          refine s_on 34 rfl (congrArg Value.bool (decide_eq_false h19)) (o_lss (a := ep) (b := 0) rfl rfl ?_)
          refine s_op (o_pick_f (u := (.bool (decide (ep < 0)))) ((rfl : _ = _).trans (congrArg Value.bool (decide_eq_false h19))) rfl ?_)
          refine s_op (o_move (v := (.bool (decide (ep < 0)))) rfl ?_)
          by_cases h24 : ep < 0
          · -- ep < 0
            refine s_off (b' := true) 38 rfl (congrArg Value.bool (decide_eq_true h24)) rfl ?_
            refine s_off (b' := true) 38 rfl (congrArg Value.bool (decide_eq_true h24)) rfl ?_
            refine s_op (o_pick_t (u := (.bool true)) ((rfl : _ = _).trans (congrArg Value.bool (decide_eq_true h24))) rfl ?_)
            refine s_nil ?_
            refine t_norm (hK3 _ _ ?_)
            refine c_true rfl rfl ?_
            refine wp_seq_k fun K25 hK25 => ?_
            refine c_region ?_
            refine s_op (o_callf (vs := #[]) ca23 rfl (args0) (awake3_c hH.all (hg.mono (seg_sub 0 rfl))) ?_)
            rintro _ w28 ⟨rfl, hX26⟩
            refine ⟨_, rfl, ?_⟩
            have hH27 := hX26.of_all
            refine s_op (o_assign (v := (.bool true)) rfl ?_)
            refine s_nil ?_
            refine t_norm (hK25 _ _ ?_)
            refine wp_ret ?_
            refine t_ret (c_ret1 Tryd.results10  (v := (.bool true)) rfl ?_)
            exact ⟨rfl, hH27⟩
          · -- not: ep < 0
            refine s_on 38 rfl (congrArg Value.bool (decide_eq_false h24)) (o_move (v := (.int .i64 ep)) rfl ?_)
            refine s_on 38 rfl (congrArg Value.bool (decide_eq_false h24)) (o_gtr (a := ep) (b := 1073741824) rfl rfl ?_)
            refine s_op (o_pick_f (u := (.bool (decide (1073741824 < ep)))) ((rfl : _ = _).trans (congrArg Value.bool (decide_eq_false h24))) rfl ?_)
            refine s_nil ?_
            refine t_norm (hK3 _ _ ?_)
            refine c_cond rfl (fun h29 => ?_) (fun h29 => ?_)
            · -- 1073741824 < ep
              refine wp_seq_k fun K30 hK30 => ?_
              refine c_region ?_
              refine s_op (o_callf (vs := #[]) ca23 rfl (args0) (awake3_c hH.all (hg.mono (seg_sub 0 rfl))) ?_)
              rintro _ w33 ⟨rfl, hX31⟩
              refine ⟨_, rfl, ?_⟩
              have hH32 := hX31.of_all
              refine s_op (o_assign (v := (.bool true)) rfl ?_)
              refine s_nil ?_
              refine t_norm (hK30 _ _ ?_)
              refine wp_ret ?_
              refine t_ret (c_ret1 Tryd.results10  (v := (.bool true)) rfl ?_)
              exact ⟨rfl, hH32⟩
            · -- not: 1073741824 < ep
              refine wp_skip ?_
              refine t_norm (hK2 _ _ ?_)
              refine wp_seq_k fun K34 hK34 => ?_
              refine c_region ?_
              refine s_op (o_assign (v := (S ([] : List UInt8))) rfl ?_)
              refine s_nil ?_
              refine t_norm (hK34 _ _ ?_)
              refine wp_seq_k fun K35 hK35 => ?_
              refine wp_seq_k fun K36 hK36 => ?_
              refine c_region ?_
              refine s_op (o_assign (v := (.int .i64 0)) rfl ?_)
              refine s_nil ?_
              refine t_norm (hK36 _ _ ?_)
              refine wp_block ?_
              let I38 : Nat → (Nat → Value) → World → Prop := fun n__ r__ w__ => ∃ (k : Nat) (cur : List UInt8), n__ = dl.length - k ∧ Has E w__ [R] ∧ (k ≤ dl.length) ∧ (∀ x ∈ dl.take k, x.length ≤ 200) ∧ (cur = catS (frs ep pl 0 (dl.take k))) ∧ (cur.length = (dl.take k).flatten.length + 25 * k) ∧ (cur.length ≤ 225 * k) ∧ r__ 0 = (.int .i64 ep) ∧ r__ 1 = (.int .i64 pl) ∧ r__ 2 = v ∧ r__ 3 = (.int .i64 kk) ∧ r__ 9 = (S cur) ∧ r__ 10 = (.int .i64 (k : Int)) ∧ r__ 41 = (.bool (decide (1073741824 < ep)))
              refine c_loop I38 _ ⟨0, [], rfl, hH, Nat.zero_le _, (by simp), rfl, rfl, Nat.zero_le _, rfl, rfl, rfl, rfl, rfl, rfl, rfl⟩ ?_
              rintro n_ r41 w39 ⟨k, cur, rfl, hH40, hk, hsm, hcur, hcl, hcb, e37_0, e37_1, e37_2, e37_3, e37_9, e37_10, e37_41⟩
              refine wp_seq_k fun K42 hK42 => ?_
              refine wp_seq_k fun K43 hK43 => ?_
              refine c_region ?_
              refine s_op (o_move (v := (.int .i64 (k : Int))) e37_10 ?_)
              refine s_op (o_move (v := v) e37_2 ?_)
              refine s_op (o_lenS Tryd.underlying22 rfl hv ?_)
              refine s_op (o_lss (a := (k : Int)) (b := ((dl.length : Nat) : Int)) rfl rfl ?_)
              refine s_nil ?_
              refine t_norm (hK43 _ _ ?_)
              refine c_cond rfl (fun h44 => ?_) (fun h44 => ?_)
              · -- (k : Int) < ((dl.length : Nat) : Int)
                refine wp_skip ?_
                refine t_norm (hK42 _ _ ?_)
                refine wp_seq_k fun K45 hK45 => ?_
                refine wp_block ?_
                refine wp_seq_k fun K46 hK46 => ?_
                refine wp_seq_k fun K47 hK47 => ?_
                refine c_region ?_
                refine s_op (o_move (v := v) e37_2 ?_)
                refine s_op (o_move (v := (.int .i64 (k : Int))) e37_10 ?_)
                obtain ⟨x51, hx52⟩ : ∃ x_, dl[((k : Int)).toNat]? = some x_ := get_some (by omega)
                refine s_op (o_index1 Tryd.underlying22 ti9 rfl hv rfl (by omega) hx52 fun b48 o49 hc50 => ?_)
                refine s_op (o_load1 (v := (S x51)) Tryd.underlying9 rfl rfl hH40 (seg_sub 0 rfl) hc50 ?_)
                refine s_op (o_slen Tryd.underlying9 rfl ?_)
                refine s_op (o_gtr (a := (x51.length : Int)) (b := 200) rfl rfl ?_)
                refine s_nil ?_
                refine t_norm (hK47 _ _ ?_)
                refine c_cond rfl (fun h53 => ?_) (fun h53 => ?_)
                · -- 200 < (x51.length : Int)
                  refine wp_seq_k fun K54 hK54 => ?_
                  refine c_region ?_
                  refine s_op (o_callf (vs := #[]) ca23 rfl (args0) (awake3_c hH40.all (hg.mono (seg_sub 0 rfl))) ?_)
                  rintro _ w57 ⟨rfl, hX55⟩
                  refine ⟨_, rfl, ?_⟩
                  have hH56 := hX55.of_all
                  refine s_op (o_assign (v := (.bool true)) rfl ?_)
                  refine s_nil ?_
                  refine t_norm (hK54 _ _ ?_)
                  refine wp_ret ?_
                  refine t_ret (b_ret (t_ret (t_ret (b_ret (t_ret (c_ret1 Tryd.results10  (v := (.bool true)) rfl ?_))))))
                  exact ⟨rfl, hH56⟩
                · -- not: 200 < (x51.length : Int)
                  refine wp_skip ?_
                  refine t_norm (hK46 _ _ ?_)
                  refine c_region ?_
                  refine s_op (o_move (v := (S cur)) e37_9 ?_)
                  refine s_op (o_move (v := (.int .i64 ep)) e37_0 ?_)
                  refine s_op (o_move (v := (.int .i64 pl)) e37_1 ?_)
                  refine s_op (o_move (v := (S cur)) e37_9 ?_)
                  refine s_op (o_slen Tryd.underlying9 rfl ?_)
                  refine s_op (o_add (a := pl) (b := (cur.length : Int)) rfl rfl (w64 (by omega) (by omega)) ?_)
                  refine s_op (o_move (v := (.int .i64 (k : Int))) e37_10 ?_)
                  refine s_op (o_mul (a := 3) (b := (k : Int)) rfl rfl (w64 (by omega) (by omega)) ?_)
                  refine s_op (o_move (v := v) e37_2 ?_)
                  refine s_op (o_move (v := (.int .i64 (k : Int))) e37_10 ?_)
                  refine s_op (o_index1 Tryd.underlying22 ti9 rfl hv rfl (by omega) hx52 fun b58 o59 hc60 => ?_)
                  refine s_op (o_load1 (v := (S x51)) Tryd.underlying9 rfl rfl hH40 (seg_sub 0 rfl) hc60 ?_)
                  have hb_ := back_step (ep := ep) (pl := pl) (k := k) (by omega) (by omega) (by omega) hx52 (by omega) hsm hcur hcl hcb
                  have hbl_ := hb_.2.2.2
                  rw [List.length_append] at hbl_
                  refine s_op (o_sight (v := (.agg #[(.int .i64 ep), (.int .i64 (pl + (cur.length : Int))), (.int .i64 (3 * (k : Int))), (S x51)])) (fun _ => by kernel_rfl) ?_)
                  refine s_op (o_callf (vs := #[(.agg #[(.int .i64 ep), (.int .i64 (pl + (cur.length : Int))), (.int .i64 (3 * (k : Int))), (S x51)]), (.slice none 0 0)]) ca26 rfl (args2 rfl rfl) (make1_c hH40.all (hg.mono (seg_sub 0 rfl)) (Fr.mk ep (pl + (cur.length : Int)) (3 * (k : Int)) x51) (by first | omega | (dsimp only; omega))) ?_)
                  rintro _ w63 ⟨rfl, hX61⟩
                  refine ⟨_, rfl, ?_⟩
                  have hH62 := hX61.of_all
                  refine s_op (o_sadd rfl rfl (by first | omega | (simp only [List.length_append, List.length_cons, List.length_nil]; omega)) ?_)
                  refine s_op (o_assign (v := (S (cur ++ (makeS (Fr.mk ep (pl + (cur.length : Int)) (3 * (k : Int)) x51))))) rfl ?_)
                  refine s_nil ?_
                  refine b_norm ?_
                  refine t_norm (hK45 _ _ ?_)
                  refine c_region ?_
                  refine s_op (o_move (v := (.int .i64 (k : Int))) e37_10 ?_)
                  refine s_op (o_add (a := (k : Int)) (b := 1) rfl rfl (w64 (by omega) (by omega)) ?_)
                  refine s_op (o_assign (v := (.int .i64 ((k : Int) + 1))) rfl ?_)
                  refine s_nil ?_
                  refine t_norm ⟨dl.length - (k + 1), _, rfl, ?_, ?_⟩
                  · omega
                  · exact ⟨(k + 1), (cur ++ (makeS (Fr.mk ep (pl + (cur.length : Int)) (3 * (k : Int)) x51))), rfl, hH62, (by omega), (hb_.1), (hb_.2.1), (hb_.2.2.1), (hb_.2.2.2), e37_0, e37_1, e37_2, e37_3, rfl, rfl, e37_41⟩
              · -- not: (k : Int) < ((dl.length : Nat) : Int)
                have e : k = dl.length := by omega
                rw [e, List.take_length] at hsm hcur hcl
                have hbc := fun rc => back_chains (ep := ep) (pl := pl) (rc := rc) (by omega) (by omega) (by omega) hsm hcur
                refine wp_exit ?_
                refine t_exit (t_exit (x_in (?_)))
                refine t_norm (hK35 _ _ ?_)
                refine wp_seq_k fun K64 hK64 => ?_
                refine c_region ?_
                refine s_op (o_move (v := (.int .i64 ep)) e37_0 ?_)
                refine s_op (o_move (v := (.int .i64 pl)) e37_1 ?_)
                refine s_op (o_move (v := (.int .i64 kk)) e37_3 ?_)
                have hw65 := wrap_u64 kk
                refine s_op (o_conv (c := (IntKind.wrap .u64 kk)) Tryd.underlying3 Tryd.underlying33 rfl rfl ?_)
                refine s_op (o_rem (a := IntKind.wrap .u64 kk) (b := 1000) (c := (IntKind.wrap .u64 kk) % 1000) rfl rfl (by omega) ((Int.tmod_eq_emod_of_nonneg (by first | exact Int.natCast_nonneg _ | omega))) ?_)
                refine s_op (o_conv (c := ((IntKind.wrap .u64 kk) % 1000)) Tryd.underlying33 Tryd.underlying3 rfl (w64 (by omega) (by omega)) ?_)
                refine s_op (o_add (a := pl) (b := (IntKind.wrap .u64 kk) % 1000) rfl rfl (w64 (by omega) (by omega)) ?_)
                refine s_op (o_sight (v := (.agg #[(.int .i64 ep), (.int .i64 (pl + ((IntKind.wrap .u64 kk) % 1000)))])) (fun _ => by kernel_rfl) ?_)
                refine s_op (o_alloc (cs := #[(.int .i64 0), (.int .i64 0)]) ti51 rfl hH40 fun b66 w67 hH68 => ?_)
                refine s_eff (o_storeN (vs := [(.int .i64 ep), (.int .i64 (pl + ((IntKind.wrap .u64 kk) % 1000)))]) (c' := #[(.int .i64 ep), (.int .i64 (pl + ((IntKind.wrap .u64 kk) % 1000)))]) ti51 rfl rfl rfl rfl (by intro u hu; simp only [List.mem_cons, List.not_mem_nil, or_false] at hu; rcases hu with rfl | rfl <;> first | rfl) (by simp) (by kernel_rfl) (hH68.front 0 rfl) fun w69 hH70 => ?_)
                refine s_nil ?_
                refine t_norm (hK64 _ _ ?_)
                refine wp_seq_k fun K71 hK71 => ?_
                refine c_region ?_
                refine s_op (o_loadN (cs := [(.int .i64 ep), (.int .i64 (pl + ((IntKind.wrap .u64 kk) % 1000)))]) Tryd.underlying51 rfl ti51 rfl hH70 (seg_sub 0 rfl) (CellsAt.one rfl) ?_)
                refine s_op (o_move (v := (S cur)) e37_9 ?_)
                refine s_op (o_sadd rfl rfl (by first | omega | (simp only [List.length_append, List.length_cons, List.length_nil]; omega)) ?_)
                refine s_op (o_move (v := (.int .i64 pl)) e37_1 ?_)
                refine s_op (o_callf (vs := #[(.agg #[(.int .i64 ep), (.int .i64 (pl + ((IntKind.wrap .u64 kk) % 1000)))]), (S (cur ++ [0])), (.int .i64 pl), (.int .i64 (-1))]) ca28 rfl (args4 rfl rfl rfl rfl) (chainN_c hH70.all (hg.mono (seg_sub 1 rfl)) (cur ++ [0]) (by first | omega | (simp only [List.length_append, List.length_cons, List.length_nil, List.length_take]; omega)) ep (pl + ((IntKind.wrap .u64 kk) % 1000)) pl (-1) (by omega)) ?_)
                rintro _ w77 ⟨v72, s73, rfl, ho74, hX75⟩
                refine ⟨_, rfl, ?_⟩
                have hH76 : Has E w77 [s73, [Hp.one b66 (.cells #[(.int .i64 ep), (.int .i64 (pl + ((IntKind.wrap .u64 kk) % 1000)))] 51 (0, 0))], R] := hX75.of_all1
                refine s_op (o_move (v := (.tuple #[v72, (.int .i64 ((chN ep (pl + ((IntKind.wrap .u64 kk) % 1000)) (cur ++ [0]) pl (-1)).2))])) rfl ?_)
                refine s_op (o_extract (v := v72) rfl rfl ?_)
                refine s_op (o_extract (v := (.int .i64 ((chN ep (pl + ((IntKind.wrap .u64 kk) % 1000)) (cur ++ [0]) pl (-1)).2))) rfl rfl ?_)
                refine s_op (o_assign (v := v72) rfl ?_)
                refine s_op (o_assign (v := (.int .i64 ((chN ep (pl + ((IntKind.wrap .u64 kk) % 1000)) (cur ++ [0]) pl (-1)).2))) rfl ?_)
                refine s_nil ?_
                refine t_norm (hK71 _ _ ?_)
                refine wp_seq_k fun K78 hK78 => ?_
                refine wp_seq_k fun K79 hK79 => ?_
                refine c_region ?_
                refine s_op (o_move (v := v72) rfl ?_)
                refine s_op (o_lenS Tryd.underlying52 rfl ho74.sl ?_)
                refine s_op (o_move (v := v) e37_2 ?_)
                refine s_op (o_lenS Tryd.underlying22 rfl hv ?_)
                refine s_op (o_neq (a := ((((chN ep (pl + ((IntKind.wrap .u64 kk) % 1000)) (cur ++ [0]) pl (-1)).1).length : Nat) : Int)) (b := ((dl.length : Nat) : Int)) rfl rfl ?_)
                refine s_op (o_move (v := (.bool (decide (((((chN ep (pl + ((IntKind.wrap .u64 kk) % 1000)) (cur ++ [0]) pl (-1)).1).length : Nat) : Int) ≠ ((dl.length : Nat) : Int))))) rfl ?_)
                by_cases h80 : ((((chN ep (pl + ((IntKind.wrap .u64 kk) % 1000)) (cur ++ [0]) pl (-1)).1).length : Nat) : Int) ≠ ((dl.length : Nat) : Int)
                · -- ((((chN ep (pl + ((IntKind.wrap .u64 kk) % 1000)) (cur ++ [0]) pl (-1)).1).length : Nat) : Int) ≠ ((dl.length : Nat) : Int)
                  have hc1 := (hbc (pl + ((IntKind.wrap .u64 kk) % 1000))).1
                  have hL1 : (chN ep (pl + ((IntKind.wrap .u64 kk) % 1000)) (cur ++ [0]) pl (-1)).1 = frs ep pl 0 dl := by rw [hc1]
                  have hl1 : (chN ep (pl + ((IntKind.wrap .u64 kk) % 1000)) (cur ++ [0]) pl (-1)).1.length = dl.length := by rw [hL1, frs_len]
                  exact absurd (by rw [hl1]) h80
                · -- not: ((((chN ep (pl + ((IntKind.wrap .u64 kk) % 1000)) (cur ++ [0]) pl (-1)).1).length : Nat) : Int) ≠ ((dl.length : Nat) : Int)
                  have hc1 := (hbc (pl + ((IntKind.wrap .u64 kk) % 1000))).1
                  have hL1 : (chN ep (pl + ((IntKind.wrap .u64 kk) % 1000)) (cur ++ [0]) pl (-1)).1 = frs ep pl 0 dl := by rw [hc1]
                  have hl1 : (chN ep (pl + ((IntKind.wrap .u64 kk) % 1000)) (cur ++ [0]) pl (-1)).1.length = dl.length := by rw [hL1, frs_len]
                  refine s_on 92 rfl (congrArg Value.bool (decide_eq_false h80)) (o_move (v := (.int .i64 ((chN ep (pl + ((IntKind.wrap .u64 kk) % 1000)) (cur ++ [0]) pl (-1)).2))) rfl ?_)
                  refine s_on 92 rfl (congrArg Value.bool (decide_eq_false h80)) (o_move (v := (.int .i64 pl)) e37_1 ?_)
                  refine s_on 92 rfl (congrArg Value.bool (decide_eq_false h80)) (o_move (v := (S cur)) e37_9 ?_)
                  refine s_on 92 rfl (congrArg Value.bool (decide_eq_false h80)) (o_slen Tryd.underlying9 rfl ?_)
                  refine s_on 92 rfl (congrArg Value.bool (decide_eq_false h80)) (o_add (a := pl) (b := (cur.length : Int)) rfl rfl (w64 (by omega) (by omega)) ?_)
                  refine s_on 92 rfl (congrArg Value.bool (decide_eq_false h80)) (o_neq (a := (chN ep (pl + ((IntKind.wrap .u64 kk) % 1000)) (cur ++ [0]) pl (-1)).2) (b := pl + (cur.length : Int)) rfl rfl ?_)
                  refine s_op (o_pick_f (u := (.bool (decide ((chN ep (pl + ((IntKind.wrap .u64 kk) % 1000)) (cur ++ [0]) pl (-1)).2 ≠ pl + (cur.length : Int))))) ((rfl : _ = _).trans (congrArg Value.bool (decide_eq_false h80))) rfl ?_)
                  refine s_op (o_move (v := (.bool (decide ((chN ep (pl + ((IntKind.wrap .u64 kk) % 1000)) (cur ++ [0]) pl (-1)).2 ≠ pl + (cur.length : Int))))) rfl ?_)
                  by_cases h81 : (chN ep (pl + ((IntKind.wrap .u64 kk) % 1000)) (cur ++ [0]) pl (-1)).2 ≠ pl + (cur.length : Int)
                  · -- (chN ep (pl + ((IntKind.wrap .u64 kk) % 1000)) (cur ++ [0]) pl (-1)).2 ≠ pl + (cur.length : Int)
                    exact absurd (by rw [hc1]) h81
                  · -- not: (chN ep (pl + ((IntKind.wrap .u64 kk) % 1000)) (cur ++ [0]) pl (-1)).2 ≠ pl + (cur.length : Int)
                    refine s_on 100 rfl (congrArg Value.bool (decide_eq_false h81)) (o_move (v := (S cur)) e37_9 ?_)
                    refine s_on 100 rfl (congrArg Value.bool (decide_eq_false h81)) (o_slen Tryd.underlying9 rfl ?_)
                    refine s_on 100 rfl (congrArg Value.bool (decide_eq_false h81)) (o_eql (a := (cur.length : Int)) (b := 0) rfl rfl ?_)
                    refine s_op (o_pick_f (u := (.bool (decide ((cur.length : Int) = 0)))) ((rfl : _ = _).trans (congrArg Value.bool (decide_eq_false h81))) rfl ?_)
                    refine s_nil ?_
                    refine t_norm (hK79 _ _ ?_)
                    refine c_cond rfl (fun h82 => ?_) (fun h82 => ?_)
                    · -- (cur.length : Int) = 0
                      exfalso; omega
                    · -- not: (cur.length : Int) = 0
                      refine wp_skip ?_
                      refine t_norm (hK78 _ _ ?_)
                      refine wp_seq_k fun K83 hK83 => ?_
                      refine wp_seq_k fun K84 hK84 => ?_
                      refine c_region ?_
                      refine s_op (o_assign (v := (.int .i64 0)) rfl ?_)
                      refine s_nil ?_
                      refine t_norm (hK84 _ _ ?_)
                      refine wp_block ?_
                      let I86 : Nat → (Nat → Value) → World → Prop := fun n__ r__ w__ => ∃ (i : Nat), n__ = dl.length - i ∧ Has E w__ [s73, [Hp.one b66 (.cells #[(.int .i64 ep), (.int .i64 (pl + ((IntKind.wrap .u64 kk) % 1000)))] 51 (0, 0))], R] ∧ (i ≤ dl.length) ∧ r__ 0 = (.int .i64 ep) ∧ r__ 1 = (.int .i64 pl) ∧ r__ 2 = v ∧ r__ 3 = (.int .i64 kk) ∧ r__ 9 = (S cur) ∧ r__ 10 = (.int .i64 (k : Int)) ∧ r__ 11 = (.pointer (some ⟨b66, 0, none⟩)) ∧ r__ 12 = v72 ∧ r__ 13 = (.int .i64 ((chN ep (pl + ((IntKind.wrap .u64 kk) % 1000)) (cur ++ [0]) pl (-1)).2)) ∧ r__ 14 = (.int .i64 (i : Int)) ∧ r__ 41 = (.bool (decide (1073741824 < ep))) ∧ r__ 46 = (.bool (decide ((k : Int) < ((dl.length : Nat) : Int)))) ∧ r__ 104 = (.bool (decide ((cur.length : Int) = 0)))
                      refine c_loop I86 _ ⟨0, rfl, hH76, Nat.zero_le _, e37_0, e37_1, e37_2, e37_3, e37_9, e37_10, rfl, rfl, rfl, rfl, e37_41, rfl, rfl⟩ ?_
                      rintro n_ r89 w87 ⟨i, rfl, hH88, hi, e85_0, e85_1, e85_2, e85_3, e85_9, e85_10, e85_11, e85_12, e85_13, e85_14, e85_41, e85_46, e85_104⟩
                      refine wp_seq_k fun K90 hK90 => ?_
                      refine wp_seq_k fun K91 hK91 => ?_
                      refine c_region ?_
                      refine s_op (o_move (v := (.int .i64 (i : Int))) e85_14 ?_)
                      refine s_op (o_move (v := v72) e85_12 ?_)
                      refine s_op (o_lenS Tryd.underlying52 rfl ho74.sl ?_)
                      refine s_op (o_lss (a := (i : Int)) (b := ((((chN ep (pl + ((IntKind.wrap .u64 kk) % 1000)) (cur ++ [0]) pl (-1)).1).length : Nat) : Int)) rfl rfl ?_)
                      refine s_nil ?_
                      refine t_norm (hK91 _ _ ?_)
                      refine c_cond rfl (fun h92 => ?_) (fun h92 => ?_)
                      · -- (i : Int) < ((((chN ep (pl + ((IntKind.wrap .u64 kk) % 1000)) (cur ++ [0]) pl (-1)).1).length : Nat) : Int)
                        obtain ⟨xf, hxf⟩ : ∃ x_, ((chN ep (pl + ((IntKind.wrap .u64 kk) % 1000)) (cur ++ [0]) pl (-1)).1)[((i : Int)).toNat]? = some x_ := get_some (by omega)
                        obtain ⟨xd, hxd⟩ : ∃ x_, dl[((i : Int)).toNat]? = some x_ := get_some (by omega)
                        have hq_ := frs_get ep dl pl 0 i xf (by rw [← hL1]; exact hxf)
                        refine wp_skip ?_
                        refine t_norm (hK90 _ _ ?_)
                        refine wp_seq_k fun K93 hK93 => ?_
                        refine wp_block ?_
                        refine wp_seq_k fun K94 hK94 => ?_
                        by_cases h95 : xf.data ≠ xd
                        · -- xf.data ≠ xd
                          exact absurd (Option.some.inj (hq_.2.symm.trans hxd)) h95
                        · -- not: xf.data ≠ xd
                          refine c_flow3 [s73, [Hp.one b66 (.cells #[(.int .i64 ep), (.int .i64 (pl + ((IntKind.wrap .u64 kk) % 1000)))] 51 (0, 0))], R] (fun i_ => match i_ with | _ => []) (fun i_ v_ h_ m_ => match i_ with | 0 => v_ = v72 ∧ h_ = [] | 1 => v_ = (.int .i64 (i : Int)) ∧ h_ = [] | 2 => ∃ (b96 : Nat) (o97 : Nat), v_ = (.pointer (some ⟨b96, o97, none⟩)) ∧ h_ = [] ∧ (CellsAt s73 b96 o97 [(.int .i64 xf.ep), (.int .i64 xf.pl), (.int .i64 xf.gsn), (S xf.data)]) | 3 => ∃ (b96 : Nat) (o97 : Nat), m_ 2 = (.pointer (some ⟨b96, o97, none⟩)) ∧ v_ = (.pointer (some ⟨b96, o97 + 3, none⟩)) ∧ h_ = [] | 4 => v_ = (S xf.data) ∧ h_ = [] | 5 => v_ = v ∧ h_ = [] | 6 => v_ = (.int .i64 (i : Int)) ∧ h_ = [] | 7 => ∃ (b99 : Nat) (o100 : Nat), v_ = (.pointer (some ⟨b99, o100, none⟩)) ∧ h_ = [] ∧ (CellsAt R b99 o100 [(S xd)]) | 8 => v_ = (S xd) ∧ h_ = [] | 9 => v_ = (.bool (decide (xf.data ≠ xd))) ∧ h_ = [] | 10 => v_ = (.bool (decide (xf.data ≠ xd))) ∧ h_ = [] | 11 => v_ = v72 ∧ h_ = [] | 12 => v_ = (.int .i64 (i : Int)) ∧ h_ = [] | 13 => ∃ (b102 : Nat) (o103 : Nat), v_ = (.pointer (some ⟨b102, o103, none⟩)) ∧ h_ = [] ∧ (CellsAt s73 b102 o103 [(.int .i64 xf.ep), (.int .i64 xf.pl), (.int .i64 xf.gsn), (S xf.data)]) | 14 => ∃ (b102 : Nat) (o103 : Nat), m_ 13 = (.pointer (some ⟨b102, o103, none⟩)) ∧ v_ = (.pointer (some ⟨b102, o103 + 2, none⟩)) ∧ h_ = [] | 15 => v_ = (.int .i64 xf.gsn) ∧ h_ = [] | 16 => v_ = (.int .i64 (i : Int)) ∧ h_ = [] | 17 => v_ = (.int .i64 (3 * (i : Int))) ∧ h_ = [] | 18 => v_ = (.bool (decide (xf.gsn ≠ 3 * (i : Int)))) ∧ h_ = [] | 19 => v_ = (.bool (decide (xf.gsn ≠ 3 * (i : Int)))) ∧ h_ = [] | _ => True) mixed (by kernel_rfl) (flow_has (cs := []) hH88 rfl) ?_ ?_
                          · intro i_ o_ ho_ r' w' G hs_ ht
                            match i_, ho_ with
                            | 0, ho_ =>
                              obtain rfl := Option.some.inj ho_
                              have e12 : r' 12 = v72 := (ht.was 12 (by kernel_rfl)).trans e85_12
                              have hG := ht.has.drop
                              refine GOK.free rfl ?_
                              refine o_move (v := v72) e12 ?_
                              exact ⟨_, ⟨rfl, rfl⟩, hG⟩
                            | 1, ho_ =>
                              obtain rfl := Option.some.inj ho_
                              have e14 : r' 14 = (.int .i64 (i : Int)) := (ht.was 14 (by kernel_rfl)).trans e85_14
                              have hG := ht.has.drop
                              refine GOK.free rfl ?_
                              refine o_move (v := (.int .i64 (i : Int))) e14 ?_
                              exact ⟨_, ⟨rfl, rfl⟩, hG⟩
                            | 2, ho_ =>
                              obtain rfl := Option.some.inj ho_
                              obtain ⟨e111, eh0⟩ := (ht.done 0 _ rfl rfl).1
                              obtain ⟨e112, eh1⟩ := (ht.done 1 _ rfl rfl).1
                              have hG := ht.has.drop
                              refine GOK.free rfl ?_
                              refine o_indexF frC_len Tryd.underlying52 ti40 e111 ho74.sl rfl e112 (by omega) hxf fun b96 o97 hc98 => ?_
                              exact ⟨_, ⟨b96, o97, rfl, rfl, hc98⟩, hG⟩
                            | 3, ho_ =>
                              obtain rfl := Option.some.inj ho_
                              obtain ⟨b96, o97, e113, eh2, hc98⟩ := (ht.done 2 _ rfl rfl).1
                              have hG := ht.has.drop
                              refine GOK.free rfl ?_
                              refine o_fieldAddr (k := o97 + 3) (fun _ => by kernel_rfl) e113 ?_
                              exact ⟨_, ⟨b96, o97, e113, rfl, rfl⟩, hG⟩
                            | 4, ho_ =>
                              obtain rfl := Option.some.inj ho_
                              obtain ⟨b96, o97, e113, eh2, hc98⟩ := (ht.done 2 _ rfl rfl).1
                              obtain ⟨b96_3, o97_3, q3_2, e114, eh3⟩ := (ht.done 3 _ rfl rfl).1
                              have z_ : b96 = b96_3 := by have z0_ := Eq.trans (Eq.symm e113) q3_2; first | simpa using z0_ | (simp at z0_; first | exact z0_.1 | exact z0_.2)
                              subst z_
                              have z_ : o97 = o97_3 := by have z0_ := Eq.trans (Eq.symm e113) q3_2; first | simpa using z0_ | (simp at z0_; first | exact z0_.1 | exact z0_.2)
                              subst z_
                              have hG := ht.has.drop
                              refine GOK.free rfl ?_
                              refine o_load1 (v := (S xf.data)) Tryd.underlying9 rfl e114 hG (ht.fr s73 (by simp)) (CellsAt.field (k := 3) (ds := [(S xf.data)]) hc98 rfl) ?_
                              exact ⟨_, ⟨rfl, rfl⟩, hG⟩
                            | 5, ho_ =>
                              obtain rfl := Option.some.inj ho_
                              have e2 : r' 2 = v := (ht.was 2 (by kernel_rfl)).trans e85_2
                              have hG := ht.has.drop
                              refine GOK.free rfl ?_
                              refine o_move (v := v) e2 ?_
                              exact ⟨_, ⟨rfl, rfl⟩, hG⟩
                            | 6, ho_ =>
                              obtain rfl := Option.some.inj ho_
                              have e14 : r' 14 = (.int .i64 (i : Int)) := (ht.was 14 (by kernel_rfl)).trans e85_14
                              have hG := ht.has.drop
                              refine GOK.free rfl ?_
                              refine o_move (v := (.int .i64 (i : Int))) e14 ?_
                              exact ⟨_, ⟨rfl, rfl⟩, hG⟩
                            | 7, ho_ =>
                              obtain rfl := Option.some.inj ho_
                              obtain ⟨e116, eh5⟩ := (ht.done 5 _ rfl rfl).1
                              obtain ⟨e117, eh6⟩ := (ht.done 6 _ rfl rfl).1
                              have hG := ht.has.drop
                              refine GOK.free rfl ?_
                              refine o_index1 Tryd.underlying22 ti9 e116 hv e117 (by omega) hxd fun b99 o100 hc101 => ?_
                              exact ⟨_, ⟨b99, o100, rfl, rfl, hc101⟩, hG⟩
                            | 8, ho_ =>
                              obtain rfl := Option.some.inj ho_
                              obtain ⟨b99, o100, e118, eh7, hc101⟩ := (ht.done 7 _ rfl rfl).1
                              have hG := ht.has.drop
                              refine GOK.free rfl ?_
                              refine o_load1 (v := (S xd)) Tryd.underlying9 rfl e118 hG (ht.fr R (by simp)) hc101 ?_
                              exact ⟨_, ⟨rfl, rfl⟩, hG⟩
                            | 9, ho_ =>
                              obtain rfl := Option.some.inj ho_
                              obtain ⟨b96, o97, e113, eh2, hc98⟩ := (ht.done 2 _ rfl rfl).1
                              obtain ⟨b96_3, o97_3, q3_2, e114, eh3⟩ := (ht.done 3 _ rfl rfl).1
                              have z_ : b96 = b96_3 := by have z0_ := Eq.trans (Eq.symm e113) q3_2; first | simpa using z0_ | (simp at z0_; first | exact z0_.1 | exact z0_.2)
                              subst z_
                              have z_ : o97 = o97_3 := by have z0_ := Eq.trans (Eq.symm e113) q3_2; first | simpa using z0_ | (simp at z0_; first | exact z0_.1 | exact z0_.2)
                              subst z_
                              obtain ⟨e115, eh4⟩ := (ht.done 4 _ rfl rfl).1
                              obtain ⟨b99, o100, e118, eh7, hc101⟩ := (ht.done 7 _ rfl rfl).1
                              obtain ⟨e119, eh8⟩ := (ht.done 8 _ rfl rfl).1
                              have hG := ht.has.drop
                              refine GOK.free rfl ?_
                              refine o_sneq (a := xf.data) (b := xd) e115 e119 ?_
                              exact ⟨_, ⟨rfl, rfl⟩, hG⟩
                            | 10, ho_ =>
                              obtain rfl := Option.some.inj ho_
                              obtain ⟨b96, o97, e113, eh2, hc98⟩ := (ht.done 2 _ rfl rfl).1
                              obtain ⟨b96_3, o97_3, q3_2, e114, eh3⟩ := (ht.done 3 _ rfl rfl).1
                              have z_ : b96 = b96_3 := by have z0_ := Eq.trans (Eq.symm e113) q3_2; first | simpa using z0_ | (simp at z0_; first | exact z0_.1 | exact z0_.2)
                              subst z_
                              have z_ : o97 = o97_3 := by have z0_ := Eq.trans (Eq.symm e113) q3_2; first | simpa using z0_ | (simp at z0_; first | exact z0_.1 | exact z0_.2)
                              subst z_
                              obtain ⟨b99, o100, e118, eh7, hc101⟩ := (ht.done 7 _ rfl rfl).1
                              obtain ⟨e120, eh9⟩ := (ht.done 9 _ rfl rfl).1
                              have hG := ht.has.drop
                              refine GOK.free rfl ?_
                              refine o_move (v := (.bool (decide (xf.data ≠ xd)))) e120 ?_
                              exact ⟨_, ⟨rfl, rfl⟩, hG⟩
                            | 11, ho_ =>
                              obtain rfl := Option.some.inj ho_
                              obtain ⟨b96, o97, e113, eh2, hc98⟩ := (ht.done 2 _ rfl rfl).1
                              obtain ⟨b96_3, o97_3, q3_2, e114, eh3⟩ := (ht.done 3 _ rfl rfl).1
                              have z_ : b96 = b96_3 := by have z0_ := Eq.trans (Eq.symm e113) q3_2; first | simpa using z0_ | (simp at z0_; first | exact z0_.1 | exact z0_.2)
                              subst z_
                              have z_ : o97 = o97_3 := by have z0_ := Eq.trans (Eq.symm e113) q3_2; first | simpa using z0_ | (simp at z0_; first | exact z0_.1 | exact z0_.2)
                              subst z_
                              obtain ⟨b99, o100, e118, eh7, hc101⟩ := (ht.done 7 _ rfl rfl).1
                              obtain ⟨e121, eh10⟩ := (ht.done 10 _ rfl rfl).1
                              have e12 : r' 12 = v72 := (ht.was 12 (by kernel_rfl)).trans e85_12
                              have hG := ht.has.drop
                              refine GOK.on rfl rfl (Eq.trans e121 (congrArg Value.bool (decide_eq_false h95))) ?_
                              refine o_move (v := v72) e12 ?_
                              exact ⟨_, ⟨rfl, rfl⟩, hG⟩
                            | 12, ho_ =>
                              obtain rfl := Option.some.inj ho_
                              obtain ⟨b96, o97, e113, eh2, hc98⟩ := (ht.done 2 _ rfl rfl).1
                              obtain ⟨b96_3, o97_3, q3_2, e114, eh3⟩ := (ht.done 3 _ rfl rfl).1
                              have z_ : b96 = b96_3 := by have z0_ := Eq.trans (Eq.symm e113) q3_2; first | simpa using z0_ | (simp at z0_; first | exact z0_.1 | exact z0_.2)
                              subst z_
                              have z_ : o97 = o97_3 := by have z0_ := Eq.trans (Eq.symm e113) q3_2; first | simpa using z0_ | (simp at z0_; first | exact z0_.1 | exact z0_.2)
                              subst z_
                              obtain ⟨b99, o100, e118, eh7, hc101⟩ := (ht.done 7 _ rfl rfl).1
                              obtain ⟨e121, eh10⟩ := (ht.done 10 _ rfl rfl).1
                              have e14 : r' 14 = (.int .i64 (i : Int)) := (ht.was 14 (by kernel_rfl)).trans e85_14
                              have hG := ht.has.drop
                              refine GOK.on rfl rfl (Eq.trans e121 (congrArg Value.bool (decide_eq_false h95))) ?_
                              refine o_move (v := (.int .i64 (i : Int))) e14 ?_
                              exact ⟨_, ⟨rfl, rfl⟩, hG⟩
                            | 13, ho_ =>
                              obtain rfl := Option.some.inj ho_
                              obtain ⟨b96, o97, e113, eh2, hc98⟩ := (ht.done 2 _ rfl rfl).1
                              obtain ⟨b96_3, o97_3, q3_2, e114, eh3⟩ := (ht.done 3 _ rfl rfl).1
                              have z_ : b96 = b96_3 := by have z0_ := Eq.trans (Eq.symm e113) q3_2; first | simpa using z0_ | (simp at z0_; first | exact z0_.1 | exact z0_.2)
                              subst z_
                              have z_ : o97 = o97_3 := by have z0_ := Eq.trans (Eq.symm e113) q3_2; first | simpa using z0_ | (simp at z0_; first | exact z0_.1 | exact z0_.2)
                              subst z_
                              obtain ⟨b99, o100, e118, eh7, hc101⟩ := (ht.done 7 _ rfl rfl).1
                              obtain ⟨e121, eh10⟩ := (ht.done 10 _ rfl rfl).1
                              obtain ⟨e122, eh11⟩ := (ht.done 11 _ rfl rfl).1
                              obtain ⟨e123, eh12⟩ := (ht.done 12 _ rfl rfl).1
                              have hG := ht.has.drop
                              refine GOK.on rfl rfl (Eq.trans e121 (congrArg Value.bool (decide_eq_false h95))) ?_
                              refine o_indexF frC_len Tryd.underlying52 ti40 e122 ho74.sl rfl e123 (by omega) hxf fun b102 o103 hc104 => ?_
                              exact ⟨_, ⟨b102, o103, rfl, rfl, hc104⟩, hG⟩
                            | 14, ho_ =>
                              obtain rfl := Option.some.inj ho_
                              obtain ⟨b96, o97, e113, eh2, hc98⟩ := (ht.done 2 _ rfl rfl).1
                              obtain ⟨b96_3, o97_3, q3_2, e114, eh3⟩ := (ht.done 3 _ rfl rfl).1
                              have z_ : b96 = b96_3 := by have z0_ := Eq.trans (Eq.symm e113) q3_2; first | simpa using z0_ | (simp at z0_; first | exact z0_.1 | exact z0_.2)
                              subst z_
                              have z_ : o97 = o97_3 := by have z0_ := Eq.trans (Eq.symm e113) q3_2; first | simpa using z0_ | (simp at z0_; first | exact z0_.1 | exact z0_.2)
                              subst z_
                              obtain ⟨b99, o100, e118, eh7, hc101⟩ := (ht.done 7 _ rfl rfl).1
                              obtain ⟨e121, eh10⟩ := (ht.done 10 _ rfl rfl).1
                              obtain ⟨b102, o103, e124, eh13, hc104⟩ := (ht.done 13 _ rfl rfl).1
                              have hG := ht.has.drop
                              refine GOK.on rfl rfl (Eq.trans e121 (congrArg Value.bool (decide_eq_false h95))) ?_
                              refine o_fieldAddr (k := o103 + 2) (fun _ => by kernel_rfl) e124 ?_
                              exact ⟨_, ⟨b102, o103, e124, rfl, rfl⟩, hG⟩
                            | 15, ho_ =>
                              obtain rfl := Option.some.inj ho_
                              obtain ⟨b96, o97, e113, eh2, hc98⟩ := (ht.done 2 _ rfl rfl).1
                              obtain ⟨b96_3, o97_3, q3_2, e114, eh3⟩ := (ht.done 3 _ rfl rfl).1
                              have z_ : b96 = b96_3 := by have z0_ := Eq.trans (Eq.symm e113) q3_2; first | simpa using z0_ | (simp at z0_; first | exact z0_.1 | exact z0_.2)
                              subst z_
                              have z_ : o97 = o97_3 := by have z0_ := Eq.trans (Eq.symm e113) q3_2; first | simpa using z0_ | (simp at z0_; first | exact z0_.1 | exact z0_.2)
                              subst z_
                              obtain ⟨b99, o100, e118, eh7, hc101⟩ := (ht.done 7 _ rfl rfl).1
                              obtain ⟨e121, eh10⟩ := (ht.done 10 _ rfl rfl).1
                              obtain ⟨b102, o103, e124, eh13, hc104⟩ := (ht.done 13 _ rfl rfl).1
                              obtain ⟨b102_14, o103_14, q14_13, e125, eh14⟩ := (ht.done 14 _ rfl rfl).1
                              have z_ : b102 = b102_14 := by have z0_ := Eq.trans (Eq.symm e124) q14_13; first | simpa using z0_ | (simp at z0_; first | exact z0_.1 | exact z0_.2)
                              subst z_
                              have z_ : o103 = o103_14 := by have z0_ := Eq.trans (Eq.symm e124) q14_13; first | simpa using z0_ | (simp at z0_; first | exact z0_.1 | exact z0_.2)
                              subst z_
                              have hG := ht.has.drop
                              refine GOK.on rfl rfl (Eq.trans e121 (congrArg Value.bool (decide_eq_false h95))) ?_
                              refine o_load1 (v := (.int .i64 xf.gsn)) Tryd.underlying3 rfl e125 hG (ht.fr s73 (by simp)) (CellsAt.field (k := 2) (ds := [(.int .i64 xf.gsn)]) hc104 rfl) ?_
                              exact ⟨_, ⟨rfl, rfl⟩, hG⟩
                            | 16, ho_ =>
                              obtain rfl := Option.some.inj ho_
                              obtain ⟨b96, o97, e113, eh2, hc98⟩ := (ht.done 2 _ rfl rfl).1
                              obtain ⟨b96_3, o97_3, q3_2, e114, eh3⟩ := (ht.done 3 _ rfl rfl).1
                              have z_ : b96 = b96_3 := by have z0_ := Eq.trans (Eq.symm e113) q3_2; first | simpa using z0_ | (simp at z0_; first | exact z0_.1 | exact z0_.2)
                              subst z_
                              have z_ : o97 = o97_3 := by have z0_ := Eq.trans (Eq.symm e113) q3_2; first | simpa using z0_ | (simp at z0_; first | exact z0_.1 | exact z0_.2)
                              subst z_
                              obtain ⟨b99, o100, e118, eh7, hc101⟩ := (ht.done 7 _ rfl rfl).1
                              obtain ⟨e121, eh10⟩ := (ht.done 10 _ rfl rfl).1
                              have e14 : r' 14 = (.int .i64 (i : Int)) := (ht.was 14 (by kernel_rfl)).trans e85_14
                              have hG := ht.has.drop
                              refine GOK.on rfl rfl (Eq.trans e121 (congrArg Value.bool (decide_eq_false h95))) ?_
                              refine o_move (v := (.int .i64 (i : Int))) e14 ?_
                              exact ⟨_, ⟨rfl, rfl⟩, hG⟩
                            | 17, ho_ =>
                              obtain rfl := Option.some.inj ho_
                              obtain ⟨b96, o97, e113, eh2, hc98⟩ := (ht.done 2 _ rfl rfl).1
                              obtain ⟨b96_3, o97_3, q3_2, e114, eh3⟩ := (ht.done 3 _ rfl rfl).1
                              have z_ : b96 = b96_3 := by have z0_ := Eq.trans (Eq.symm e113) q3_2; first | simpa using z0_ | (simp at z0_; first | exact z0_.1 | exact z0_.2)
                              subst z_
                              have z_ : o97 = o97_3 := by have z0_ := Eq.trans (Eq.symm e113) q3_2; first | simpa using z0_ | (simp at z0_; first | exact z0_.1 | exact z0_.2)
                              subst z_
                              obtain ⟨b99, o100, e118, eh7, hc101⟩ := (ht.done 7 _ rfl rfl).1
                              obtain ⟨e121, eh10⟩ := (ht.done 10 _ rfl rfl).1
                              obtain ⟨e127, eh16⟩ := (ht.done 16 _ rfl rfl).1
                              have hG := ht.has.drop
                              refine GOK.on rfl rfl (Eq.trans e121 (congrArg Value.bool (decide_eq_false h95))) ?_
                              refine o_mul (a := 3) (b := (i : Int)) rfl e127 (w64 (by omega) (by omega)) ?_
                              exact ⟨_, ⟨rfl, rfl⟩, hG⟩
                            | 18, ho_ =>
                              obtain rfl := Option.some.inj ho_
                              obtain ⟨b96, o97, e113, eh2, hc98⟩ := (ht.done 2 _ rfl rfl).1
                              obtain ⟨b96_3, o97_3, q3_2, e114, eh3⟩ := (ht.done 3 _ rfl rfl).1
                              have z_ : b96 = b96_3 := by have z0_ := Eq.trans (Eq.symm e113) q3_2; first | simpa using z0_ | (simp at z0_; first | exact z0_.1 | exact z0_.2)
                              subst z_
                              have z_ : o97 = o97_3 := by have z0_ := Eq.trans (Eq.symm e113) q3_2; first | simpa using z0_ | (simp at z0_; first | exact z0_.1 | exact z0_.2)
                              subst z_
                              obtain ⟨b99, o100, e118, eh7, hc101⟩ := (ht.done 7 _ rfl rfl).1
                              obtain ⟨e121, eh10⟩ := (ht.done 10 _ rfl rfl).1
                              obtain ⟨b102, o103, e124, eh13, hc104⟩ := (ht.done 13 _ rfl rfl).1
                              obtain ⟨b102_14, o103_14, q14_13, e125, eh14⟩ := (ht.done 14 _ rfl rfl).1
                              have z_ : b102 = b102_14 := by have z0_ := Eq.trans (Eq.symm e124) q14_13; first | simpa using z0_ | (simp at z0_; first | exact z0_.1 | exact z0_.2)
                              subst z_
                              have z_ : o103 = o103_14 := by have z0_ := Eq.trans (Eq.symm e124) q14_13; first | simpa using z0_ | (simp at z0_; first | exact z0_.1 | exact z0_.2)
                              subst z_
                              obtain ⟨e126, eh15⟩ := (ht.done 15 _ rfl rfl).1
                              obtain ⟨e128, eh17⟩ := (ht.done 17 _ rfl rfl).1
                              have hG := ht.has.drop
                              refine GOK.on rfl rfl (Eq.trans e121 (congrArg Value.bool (decide_eq_false h95))) ?_
                              refine o_neq (a := xf.gsn) (b := 3 * (i : Int)) e126 e128 ?_
                              exact ⟨_, ⟨rfl, rfl⟩, hG⟩
                            | 19, ho_ =>
                              obtain rfl := Option.some.inj ho_
                              obtain ⟨b96, o97, e113, eh2, hc98⟩ := (ht.done 2 _ rfl rfl).1
                              obtain ⟨b96_3, o97_3, q3_2, e114, eh3⟩ := (ht.done 3 _ rfl rfl).1
                              have z_ : b96 = b96_3 := by have z0_ := Eq.trans (Eq.symm e113) q3_2; first | simpa using z0_ | (simp at z0_; first | exact z0_.1 | exact z0_.2)
                              subst z_
                              have z_ : o97 = o97_3 := by have z0_ := Eq.trans (Eq.symm e113) q3_2; first | simpa using z0_ | (simp at z0_; first | exact z0_.1 | exact z0_.2)
                              subst z_
                              obtain ⟨b99, o100, e118, eh7, hc101⟩ := (ht.done 7 _ rfl rfl).1
                              obtain ⟨e121, eh10⟩ := (ht.done 10 _ rfl rfl).1
                              obtain ⟨b102, o103, e124, eh13, hc104⟩ := (ht.done 13 _ rfl rfl).1
                              obtain ⟨b102_14, o103_14, q14_13, e125, eh14⟩ := (ht.done 14 _ rfl rfl).1
                              have z_ : b102 = b102_14 := by have z0_ := Eq.trans (Eq.symm e124) q14_13; first | simpa using z0_ | (simp at z0_; first | exact z0_.1 | exact z0_.2)
                              subst z_
                              have z_ : o103 = o103_14 := by have z0_ := Eq.trans (Eq.symm e124) q14_13; first | simpa using z0_ | (simp at z0_; first | exact z0_.1 | exact z0_.2)
                              subst z_
                              obtain ⟨e129, eh18⟩ := (ht.done 18 _ rfl rfl).1
                              have hG := ht.has.drop
                              refine GOK.free rfl ?_
                              refine o_pick_f (u := (.bool (decide (xf.gsn ≠ 3 * (i : Int))))) ((e121 : _ = _).trans (congrArg Value.bool (decide_eq_false h95))) e129 ?_
                              exact ⟨_, ⟨rfl, rfl⟩, hG⟩
                            | i_ + 20, ho_ => exact absurd ho_ (by simp)
                          · intro vs105 hs106 w107 hT108 hH109
                            obtain ⟨e0_, eh0_⟩ := hT108 0 _ rfl
                            obtain ⟨e1_, eh1_⟩ := hT108 1 _ rfl
                            obtain ⟨b96, o97, e2_, eh2_, hc98⟩ := hT108 2 _ rfl
                            obtain ⟨b96_3, o97_3, q3_2, e3_, eh3_⟩ := hT108 3 _ rfl
                            have z_ : b96 = b96_3 := by have z0_ := Eq.trans (Eq.symm e2_) q3_2; first | simpa using z0_ | (simp at z0_; first | exact z0_.1 | exact z0_.2)
                            subst z_
                            have z_ : o97 = o97_3 := by have z0_ := Eq.trans (Eq.symm e2_) q3_2; first | simpa using z0_ | (simp at z0_; first | exact z0_.1 | exact z0_.2)
                            subst z_
                            obtain ⟨e4_, eh4_⟩ := hT108 4 _ rfl
                            obtain ⟨e5_, eh5_⟩ := hT108 5 _ rfl
                            obtain ⟨e6_, eh6_⟩ := hT108 6 _ rfl
                            obtain ⟨b99, o100, e7_, eh7_, hc101⟩ := hT108 7 _ rfl
                            obtain ⟨e8_, eh8_⟩ := hT108 8 _ rfl
                            obtain ⟨e9_, eh9_⟩ := hT108 9 _ rfl
                            obtain ⟨e10_, eh10_⟩ := hT108 10 _ rfl
                            obtain ⟨e11_, eh11_⟩ := hT108 11 _ rfl
                            obtain ⟨e12_, eh12_⟩ := hT108 12 _ rfl
                            obtain ⟨b102, o103, e13_, eh13_, hc104⟩ := hT108 13 _ rfl
                            obtain ⟨b102_14, o103_14, q14_13, e14_, eh14_⟩ := hT108 14 _ rfl
                            have z_ : b102 = b102_14 := by have z0_ := Eq.trans (Eq.symm e13_) q14_13; first | simpa using z0_ | (simp at z0_; first | exact z0_.1 | exact z0_.2)
                            subst z_
                            have z_ : o103 = o103_14 := by have z0_ := Eq.trans (Eq.symm e13_) q14_13; first | simpa using z0_ | (simp at z0_; first | exact z0_.1 | exact z0_.2)
                            subst z_
                            obtain ⟨e15_, eh15_⟩ := hT108 15 _ rfl
                            obtain ⟨e16_, eh16_⟩ := hT108 16 _ rfl
                            obtain ⟨e17_, eh17_⟩ := hT108 17 _ rfl
                            obtain ⟨e18_, eh18_⟩ := hT108 18 _ rfl
                            obtain ⟨e19_, eh19_⟩ := hT108 19 _ rfl
                            have hH110 : Has E w107 ([s73, [Hp.one b66 (.cells #[(.int .i64 ep), (.int .i64 (pl + ((IntKind.wrap .u64 kk) % 1000)))] 51 (0, 0))], R] ++ []) := flow_back (cs := []) hH109 (by show (hs106 0 ++ (hs106 1 ++ (hs106 2 ++ (hs106 3 ++ (hs106 4 ++ (hs106 5 ++ (hs106 6 ++ (hs106 7 ++ (hs106 8 ++ (hs106 9 ++ (hs106 10 ++ (hs106 11 ++ (hs106 12 ++ (hs106 13 ++ (hs106 14 ++ (hs106 15 ++ (hs106 16 ++ (hs106 17 ++ (hs106 18 ++ (hs106 19 ++ [])))))))))))))))))))) = _; rw [eh0_, eh1_, eh2_, eh3_, eh4_, eh5_, eh6_, eh7_, eh8_, eh9_, eh10_, eh11_, eh12_, eh13_, eh14_, eh15_, eh16_, eh17_, eh18_, eh19_]; rfl)
                            generalize hr112 : puts vs105 _ 0 _ = r111
                            have e113_0 : r111 0 = (.int .i64 ep) := by rw [← hr112]; exact e85_0
                            have e113_1 : r111 1 = (.int .i64 pl) := by rw [← hr112]; exact e85_1
                            have e113_2 : r111 2 = v := by rw [← hr112]; exact e85_2
                            have e113_3 : r111 3 = (.int .i64 kk) := by rw [← hr112]; exact e85_3
                            have e113_9 : r111 9 = (S cur) := by rw [← hr112]; exact e85_9
                            have e113_10 : r111 10 = (.int .i64 (k : Int)) := by rw [← hr112]; exact e85_10
                            have e113_11 : r111 11 = (.pointer (some ⟨b66, 0, none⟩)) := by rw [← hr112]; exact e85_11
                            have e113_12 : r111 12 = v72 := by rw [← hr112]; exact e85_12
                            have e113_13 : r111 13 = (.int .i64 ((chN ep (pl + ((IntKind.wrap .u64 kk) % 1000)) (cur ++ [0]) pl (-1)).2)) := by rw [← hr112]; exact e85_13
                            have e113_14 : r111 14 = (.int .i64 (i : Int)) := by rw [← hr112]; exact e85_14
                            have e113_41 : r111 41 = (.bool (decide (1073741824 < ep))) := by rw [← hr112]; exact e85_41
                            have e113_46 : r111 46 = (.bool (decide ((k : Int) < ((dl.length : Nat) : Int)))) := by rw [← hr112]; exact e85_46
                            have e113_104 : r111 104 = (.bool (decide ((cur.length : Int) = 0))) := by rw [← hr112]; exact e85_104
                            have e113_108 : r111 108 = (.bool (decide ((i : Int) < ((((chN ep (pl + ((IntKind.wrap .u64 kk) % 1000)) (cur ++ [0]) pl (-1)).1).length : Nat) : Int)))) := by rw [← hr112]; exact rfl
                            have e113_130 : r111 130 = (.bool (decide (xf.gsn ≠ 3 * (i : Int)))) := by rw [← hr112]; exact e19_
                            refine t_norm (hK94 _ _ ?_)
                            refine c_cond e113_130 (fun h114 => ?_) (fun h114 => ?_)
                            · -- xf.gsn ≠ 3 * (i : Int)
                              exfalso; omega
                            · -- not: xf.gsn ≠ 3 * (i : Int)
                              refine wp_skip ?_
                              refine b_norm ?_
                              refine t_norm (hK93 _ _ ?_)
                              refine c_region ?_
                              refine s_op (o_move (v := (.int .i64 (i : Int))) e113_14 ?_)
                              refine s_op (o_add (a := (i : Int)) (b := 1) rfl rfl (w64 (by omega) (by omega)) ?_)
                              refine s_op (o_assign (v := (.int .i64 ((i : Int) + 1))) rfl ?_)
                              refine s_nil ?_
                              refine t_norm ⟨dl.length - (i + 1), _, rfl, ?_, ?_⟩
                              · omega
                              · exact ⟨(i + 1), rfl, hH110, (by omega), e113_0, e113_1, e113_2, e113_3, e113_9, e113_10, e113_11, e113_12, e113_13, rfl, e113_41, e113_46, e113_104⟩
                      · -- not: (i : Int) < ((((chN ep (pl + ((IntKind.wrap .u64 kk) % 1000)) (cur ++ [0]) pl (-1)).1).length : Nat) : Int)
                        refine wp_exit ?_
                        refine t_exit (t_exit (x_in (?_)))
                        refine t_norm (hK83 _ _ ?_)
                        refine wp_seq_k fun K115 hK115 => ?_
                        refine c_region ?_
                        refine s_op (o_move (v := (.int .i64 kk)) e85_3 ?_)
                        have hw116 := wrap_u64 kk
                        refine s_op (o_conv (c := (IntKind.wrap .u64 kk)) Tryd.underlying3 Tryd.underlying33 rfl rfl ?_)
                        refine s_op (o_move (v := (S cur)) e85_9 ?_)
                        refine s_op (o_slen Tryd.underlying9 rfl ?_)
                        refine s_op (o_conv (c := (cur.length : Int)) Tryd.underlying3 Tryd.underlying33 rfl (wu64 (by omega) (by omega)) ?_)
                        have hm117 := emod_b (IntKind.wrap .u64 kk) (cur.length : Int) (by omega)
                        refine s_op (o_rem (a := IntKind.wrap .u64 kk) (b := (cur.length : Int)) (c := (IntKind.wrap .u64 kk) % (cur.length : Int)) rfl rfl (by omega) ((Int.tmod_eq_emod_of_nonneg (by first | exact Int.natCast_nonneg _ | omega))) ?_)
                        refine s_op (o_conv (c := ((IntKind.wrap .u64 kk) % (cur.length : Int))) Tryd.underlying33 Tryd.underlying3 rfl (w64 (by omega) (by omega)) ?_)
                        refine s_op (o_assign (v := (.int .i64 ((IntKind.wrap .u64 kk) % (cur.length : Int)))) rfl ?_)
                        refine s_nil ?_
                        refine t_norm (hK115 _ _ ?_)
                        refine wp_seq_k fun K118 hK118 => ?_
                        refine c_flow2 [s73, [Hp.one b66 (.cells #[(.int .i64 ep), (.int .i64 (pl + ((IntKind.wrap .u64 kk) % 1000)))] 51 (0, 0))], R] (fun i_ => match i_ with | _ => []) (fun i_ v_ h_ m_ => match i_ with | 0 => v_ = (.agg #[(.int .i64 ep), (.int .i64 (pl + ((IntKind.wrap .u64 kk) % 1000)))]) ∧ h_ = [] | 1 => v_ = (S cur) ∧ h_ = [] | 2 => v_ = (.int .i64 ((IntKind.wrap .u64 kk) % (cur.length : Int))) ∧ h_ = [] | 3 => v_ = (S (cur.take ((IntKind.wrap .u64 kk) % (cur.length : Int)).toNat)) ∧ h_ = [] | 4 => v_ = (.int .i64 pl) ∧ h_ = [] | 5 => ∃ (v119 : Value) (s120 : List Hp), v_ = (.tuple #[v119, (.int .i64 ((chN ep (pl + ((IntKind.wrap .u64 kk) % 1000)) (cur.take ((IntKind.wrap .u64 kk) % (cur.length : Int)).toNat) pl (-1)).2))]) ∧ h_ = s120 ∧ (Own 40 4 v119 (chN ep (pl + ((IntKind.wrap .u64 kk) % 1000)) (cur.take ((IntKind.wrap .u64 kk) % (cur.length : Int)).toNat) pl (-1)).1.length ((chN ep (pl + ((IntKind.wrap .u64 kk) % 1000)) (cur.take ((IntKind.wrap .u64 kk) % (cur.length : Int)).toNat) pl (-1)).1.flatMap frC) s120) | 6 => ∃ (v119 : Value), m_ 5 = (.tuple #[v119, (.int .i64 ((chN ep (pl + ((IntKind.wrap .u64 kk) % 1000)) (cur.take ((IntKind.wrap .u64 kk) % (cur.length : Int)).toNat) pl (-1)).2))]) ∧ v_ = (.tuple #[v119, (.int .i64 ((chN ep (pl + ((IntKind.wrap .u64 kk) % 1000)) (cur.take ((IntKind.wrap .u64 kk) % (cur.length : Int)).toNat) pl (-1)).2))]) ∧ h_ = [] | 7 => ∃ (v119 : Value), m_ 5 = (.tuple #[v119, (.int .i64 ((chN ep (pl + ((IntKind.wrap .u64 kk) % 1000)) (cur.take ((IntKind.wrap .u64 kk) % (cur.length : Int)).toNat) pl (-1)).2))]) ∧ v_ = v119 ∧ h_ = [] | 8 => v_ = (.int .i64 ((chN ep (pl + ((IntKind.wrap .u64 kk) % 1000)) (cur.take ((IntKind.wrap .u64 kk) % (cur.length : Int)).toNat) pl (-1)).2)) ∧ h_ = [] | 9 => ∃ (v119 : Value), m_ 5 = (.tuple #[v119, (.int .i64 ((chN ep (pl + ((IntKind.wrap .u64 kk) % 1000)) (cur.take ((IntKind.wrap .u64 kk) % (cur.length : Int)).toNat) pl (-1)).2))]) ∧ v_ = v119 ∧ h_ = [] | 10 => v_ = (.int .i64 ((chN ep (pl + ((IntKind.wrap .u64 kk) % 1000)) (cur.take ((IntKind.wrap .u64 kk) % (cur.length : Int)).toNat) pl (-1)).2)) ∧ h_ = [] | _ => True) mixed (by kernel_rfl) (flow_has (cs := []) hH88 rfl) ?_ ?_
                        · intro i_ o_ ho_ r' w' G hs_ ht
                          match i_, ho_ with
                          | 0, ho_ =>
                            obtain rfl := Option.some.inj ho_
                            have e11 : r' 11 = (.pointer (some ⟨b66, 0, none⟩)) := (ht.was 11 (by kernel_rfl)).trans e85_11
                            have hG := ht.has.drop
                            refine o_loadN (cs := [(.int .i64 ep), (.int .i64 (pl + ((IntKind.wrap .u64 kk) % 1000)))]) Tryd.underlying51 rfl ti51 e11 hG (ht.fr [Hp.one b66 (.cells #[(.int .i64 ep), (.int .i64 (pl + ((IntKind.wrap .u64 kk) % 1000)))] 51 (0, 0))] (by simp)) (CellsAt.one rfl) ?_
                            exact ⟨_, ⟨rfl, rfl⟩, hG⟩
                          | 1, ho_ =>
                            obtain rfl := Option.some.inj ho_
                            have e9 : r' 9 = (S cur) := (ht.was 9 (by kernel_rfl)).trans e85_9
                            have hG := ht.has.drop
                            refine o_move (v := (S cur)) e9 ?_
                            exact ⟨_, ⟨rfl, rfl⟩, hG⟩
                          | 2, ho_ =>
                            obtain rfl := Option.some.inj ho_
                            have e15 : r' 15 = (.int .i64 ((IntKind.wrap .u64 kk) % (cur.length : Int))) := ht.was 15 (by kernel_rfl)
                            have hG := ht.has.drop
                            refine o_move (v := (.int .i64 ((IntKind.wrap .u64 kk) % (cur.length : Int)))) e15 ?_
                            exact ⟨_, ⟨rfl, rfl⟩, hG⟩
                          | 3, ho_ =>
                            obtain rfl := Option.some.inj ho_
                            obtain ⟨e140, eh1⟩ := (ht.done 1 _ rfl rfl).1
                            obtain ⟨e141, eh2⟩ := (ht.done 2 _ rfl rfl).1
                            have hG := ht.has.drop
                            refine o_ssl_h Tryd.underlying9 e140 e141 (by omega) (by omega) ?_
                            exact ⟨_, ⟨rfl, rfl⟩, hG⟩
                          | 4, ho_ =>
                            obtain rfl := Option.some.inj ho_
                            have e1 : r' 1 = (.int .i64 pl) := (ht.was 1 (by kernel_rfl)).trans e85_1
                            have hG := ht.has.drop
                            refine o_move (v := (.int .i64 pl)) e1 ?_
                            exact ⟨_, ⟨rfl, rfl⟩, hG⟩
                          | 5, ho_ =>
                            obtain rfl := Option.some.inj ho_
                            obtain ⟨e139, eh0⟩ := (ht.done 0 _ rfl rfl).1
                            obtain ⟨e142, eh3⟩ := (ht.done 3 _ rfl rfl).1
                            obtain ⟨e143, eh4⟩ := (ht.done 4 _ rfl rfl).1
                            have hG := ht.has.drop
                            refine o_callf (vs := #[(.agg #[(.int .i64 ep), (.int .i64 (pl + ((IntKind.wrap .u64 kk) % 1000)))]), (S (cur.take ((IntKind.wrap .u64 kk) % (cur.length : Int)).toNat)), (.int .i64 pl), (.int .i64 (-1))]) ca28 rfl (args4 e139 e142 e143 rfl) (chainN_c hG.all (hg.mono (ht.fr R (by simp))) (cur.take ((IntKind.wrap .u64 kk) % (cur.length : Int)).toNat) (by first | omega | (simp only [List.length_append, List.length_cons, List.length_nil, List.length_take]; omega)) ep (pl + ((IntKind.wrap .u64 kk) % 1000)) pl (-1) (by omega)) ?_
                            rintro _ w124 ⟨v119, s120, rfl, ho121, hX122⟩
                            refine ⟨_, rfl, ?_⟩
                            have hH123 := hX122.of_all1
                            exact ⟨_, ⟨v119, s120, rfl, rfl, ho121⟩, hH123⟩
                          | 6, ho_ =>
                            obtain rfl := Option.some.inj ho_
                            obtain ⟨v119, s120, e144, eh5, ho121⟩ := (ht.done 5 _ rfl rfl).1
                            have hG := ht.has.drop
                            refine o_move (v := (.tuple #[v119, (.int .i64 ((chN ep (pl + ((IntKind.wrap .u64 kk) % 1000)) (cur.take ((IntKind.wrap .u64 kk) % (cur.length : Int)).toNat) pl (-1)).2))])) e144 ?_
                            exact ⟨_, ⟨v119, e144, rfl, rfl⟩, hG⟩
                          | 7, ho_ =>
                            obtain rfl := Option.some.inj ho_
                            obtain ⟨v119, s120, e144, eh5, ho121⟩ := (ht.done 5 _ rfl rfl).1
                            obtain ⟨v119_6, q6_5, e138, eh6⟩ := (ht.done 6 _ rfl rfl).1
                            have z_ : v119 = v119_6 := by have z0_ := Eq.trans (Eq.symm e144) q6_5; first | simpa using z0_ | (simp at z0_; first | exact z0_.1 | exact z0_.2)
                            subst z_
                            have hG := ht.has.drop
                            refine o_extract (v := v119) e138 rfl ?_
                            exact ⟨_, ⟨v119, e144, rfl, rfl⟩, hG⟩
                          | 8, ho_ =>
                            obtain rfl := Option.some.inj ho_
                            obtain ⟨v119, s120, e144, eh5, ho121⟩ := (ht.done 5 _ rfl rfl).1
                            obtain ⟨v119_6, q6_5, e138, eh6⟩ := (ht.done 6 _ rfl rfl).1
                            have z_ : v119 = v119_6 := by have z0_ := Eq.trans (Eq.symm e144) q6_5; first | simpa using z0_ | (simp at z0_; first | exact z0_.1 | exact z0_.2)
                            subst z_
                            have hG := ht.has.drop
                            refine o_extract (v := (.int .i64 ((chN ep (pl + ((IntKind.wrap .u64 kk) % 1000)) (cur.take ((IntKind.wrap .u64 kk) % (cur.length : Int)).toNat) pl (-1)).2))) e138 rfl ?_
                            exact ⟨_, ⟨rfl, rfl⟩, hG⟩
                          | 9, ho_ =>
                            obtain rfl := Option.some.inj ho_
                            obtain ⟨v119, s120, e144, eh5, ho121⟩ := (ht.done 5 _ rfl rfl).1
                            obtain ⟨v119_6, q6_5, e138, eh6⟩ := (ht.done 6 _ rfl rfl).1
                            have z_ : v119 = v119_6 := by have z0_ := Eq.trans (Eq.symm e144) q6_5; first | simpa using z0_ | (simp at z0_; first | exact z0_.1 | exact z0_.2)
                            subst z_
                            obtain ⟨v119_7, q7_5, e145, eh7⟩ := (ht.done 7 _ rfl rfl).1
                            have z_ : v119 = v119_7 := by have z0_ := Eq.trans (Eq.symm e144) q7_5; first | simpa using z0_ | (simp at z0_; first | exact z0_.1 | exact z0_.2)
                            subst z_
                            have hG := ht.has.drop
                            refine o_assign (v := v119) e145 ?_
                            exact ⟨_, ⟨v119, e144, rfl, rfl⟩, hG⟩
                          | 10, ho_ =>
                            obtain rfl := Option.some.inj ho_
                            obtain ⟨v119, s120, e144, eh5, ho121⟩ := (ht.done 5 _ rfl rfl).1
                            obtain ⟨v119_6, q6_5, e138, eh6⟩ := (ht.done 6 _ rfl rfl).1
                            have z_ : v119 = v119_6 := by have z0_ := Eq.trans (Eq.symm e144) q6_5; first | simpa using z0_ | (simp at z0_; first | exact z0_.1 | exact z0_.2)
                            subst z_
                            obtain ⟨v119_7, q7_5, e145, eh7⟩ := (ht.done 7 _ rfl rfl).1
                            have z_ : v119 = v119_7 := by have z0_ := Eq.trans (Eq.symm e144) q7_5; first | simpa using z0_ | (simp at z0_; first | exact z0_.1 | exact z0_.2)
                            subst z_
                            obtain ⟨e146, eh8⟩ := (ht.done 8 _ rfl rfl).1
                            obtain ⟨v119_9, q9_5, e16, eh9⟩ := (ht.done 9 _ rfl rfl).1
                            have z_ : v119 = v119_9 := by have z0_ := Eq.trans (Eq.symm e144) q9_5; first | simpa using z0_ | (simp at z0_; first | exact z0_.1 | exact z0_.2)
                            subst z_
                            have hG := ht.has.drop
                            refine o_assign (v := (.int .i64 ((chN ep (pl + ((IntKind.wrap .u64 kk) % 1000)) (cur.take ((IntKind.wrap .u64 kk) % (cur.length : Int)).toNat) pl (-1)).2))) e146 ?_
                            exact ⟨_, ⟨rfl, rfl⟩, hG⟩
                          | i_ + 11, ho_ => exact absurd ho_ (by simp)
                        · intro vs125 hs126 w127 hT128 hH129
                          obtain ⟨e0_, eh0_⟩ := hT128 0 _ rfl
                          obtain ⟨e1_, eh1_⟩ := hT128 1 _ rfl
                          obtain ⟨e2_, eh2_⟩ := hT128 2 _ rfl
                          obtain ⟨e3_, eh3_⟩ := hT128 3 _ rfl
                          obtain ⟨e4_, eh4_⟩ := hT128 4 _ rfl
                          obtain ⟨v119, s120, e5_, eh5_, ho121⟩ := hT128 5 _ rfl
                          obtain ⟨v119_6, q6_5, e6_, eh6_⟩ := hT128 6 _ rfl
                          have z_ : v119 = v119_6 := by have z0_ := Eq.trans (Eq.symm e5_) q6_5; first | simpa using z0_ | (simp at z0_; first | exact z0_.1 | exact z0_.2)
                          subst z_
                          obtain ⟨v119_7, q7_5, e7_, eh7_⟩ := hT128 7 _ rfl
                          have z_ : v119 = v119_7 := by have z0_ := Eq.trans (Eq.symm e5_) q7_5; first | simpa using z0_ | (simp at z0_; first | exact z0_.1 | exact z0_.2)
                          subst z_
                          obtain ⟨e8_, eh8_⟩ := hT128 8 _ rfl
                          obtain ⟨v119_9, q9_5, e9_, eh9_⟩ := hT128 9 _ rfl
                          have z_ : v119 = v119_9 := by have z0_ := Eq.trans (Eq.symm e5_) q9_5; first | simpa using z0_ | (simp at z0_; first | exact z0_.1 | exact z0_.2)
                          subst z_
                          obtain ⟨e10_, eh10_⟩ := hT128 10 _ rfl
                          have hH130 : Has E w127 ([s73, [Hp.one b66 (.cells #[(.int .i64 ep), (.int .i64 (pl + ((IntKind.wrap .u64 kk) % 1000)))] 51 (0, 0))], R] ++ [s120]) := flow_back (cs := [s120]) hH129 (by show (hs126 0 ++ (hs126 1 ++ (hs126 2 ++ (hs126 3 ++ (hs126 4 ++ (hs126 5 ++ (hs126 6 ++ (hs126 7 ++ (hs126 8 ++ (hs126 9 ++ (hs126 10 ++ []))))))))))) = _; rw [eh0_, eh1_, eh2_, eh3_, eh4_, eh5_, eh6_, eh7_, eh8_, eh9_, eh10_]; rfl)
                          generalize hr132 : puts vs125 _ 0 _ = r131
                          have e133_0 : r131 0 = (.int .i64 ep) := by rw [← hr132]; exact e85_0
                          have e133_1 : r131 1 = (.int .i64 pl) := by rw [← hr132]; exact e85_1
                          have e133_2 : r131 2 = v := by rw [← hr132]; exact e85_2
                          have e133_3 : r131 3 = (.int .i64 kk) := by rw [← hr132]; exact e85_3
                          have e133_9 : r131 9 = (S cur) := by rw [← hr132]; exact e85_9
                          have e133_10 : r131 10 = (.int .i64 (k : Int)) := by rw [← hr132]; exact e85_10
                          have e133_11 : r131 11 = (.pointer (some ⟨b66, 0, none⟩)) := by rw [← hr132]; exact e85_11
                          have e133_12 : r131 12 = v72 := by rw [← hr132]; exact e85_12
                          have e133_13 : r131 13 = (.int .i64 ((chN ep (pl + ((IntKind.wrap .u64 kk) % 1000)) (cur ++ [0]) pl (-1)).2)) := by rw [← hr132]; exact e85_13
                          have e133_14 : r131 14 = (.int .i64 (i : Int)) := by rw [← hr132]; exact e85_14
                          have e133_15 : r131 15 = (.int .i64 ((IntKind.wrap .u64 kk) % (cur.length : Int))) := by rw [← hr132]; exact rfl
                          have e133_16 : r131 16 = v119 := by rw [← hr132]; exact e9_
                          have e133_17 : r131 17 = (.int .i64 ((chN ep (pl + ((IntKind.wrap .u64 kk) % 1000)) (cur.take ((IntKind.wrap .u64 kk) % (cur.length : Int)).toNat) pl (-1)).2)) := by rw [← hr132]; exact e10_
                          have e133_41 : r131 41 = (.bool (decide (1073741824 < ep))) := by rw [← hr132]; exact e85_41
                          have e133_46 : r131 46 = (.bool (decide ((k : Int) < ((dl.length : Nat) : Int)))) := by rw [← hr132]; exact e85_46
                          have e133_104 : r131 104 = (.bool (decide ((cur.length : Int) = 0))) := by rw [← hr132]; exact e85_104
                          have e133_108 : r131 108 = (.bool (decide ((i : Int) < ((((chN ep (pl + ((IntKind.wrap .u64 kk) % 1000)) (cur ++ [0]) pl (-1)).1).length : Nat) : Int)))) := by rw [← hr132]; exact rfl
                          refine t_norm (hK118 _ _ ?_)
                          refine wp_seq_k fun K134 hK134 => ?_
                          by_cases h135 : ((((chN ep (pl + ((IntKind.wrap .u64 kk) % 1000)) (cur.take ((IntKind.wrap .u64 kk) % (cur.length : Int)).toNat) pl (-1)).1).length : Nat) : Int) < ((((chN ep (pl + ((IntKind.wrap .u64 kk) % 1000)) (cur ++ [0]) pl (-1)).1).length : Nat) : Int)
                          · -- ((((chN ep (pl + ((IntKind.wrap .u64 kk) % 1000)) (cur.take ((IntKind.wrap .u64 kk) % (cur.length : Int)).toNat) pl (-1)).1).length : Nat) : Int) < ((((chN ep (pl + ((IntKind.wrap .u64 kk) % 1000)) (cur ++ [0]) pl (-1)).1).length : Nat) : Int)
                            obtain ⟨j, hj1, hj2, hj3⟩ := (hbc (pl + ((IntKind.wrap .u64 kk) % 1000))).2 ((IntKind.wrap .u64 kk) % (cur.length : Int)).toNat (by omega)
                            have hl2 : (chN ep (pl + ((IntKind.wrap .u64 kk) % 1000)) (cur.take ((IntKind.wrap .u64 kk) % (cur.length : Int)).toNat) pl (-1)).1.length = j := by rw [hj2, List.length_take, frs_len]; omega
                            by_cases h136 : (chN ep (pl + ((IntKind.wrap .u64 kk) % 1000)) (cur.take ((IntKind.wrap .u64 kk) % (cur.length : Int)).toNat) pl (-1)).2 ≤ pl + ((IntKind.wrap .u64 kk) % (cur.length : Int))
                            · -- (chN ep (pl + ((IntKind.wrap .u64 kk) % 1000)) (cur.take ((IntKind.wrap .u64 kk) % (cur.length : Int)).toNat) pl (-1)).2 ≤ pl + ((IntKind.wrap .u64 kk) % (cur.length : Int))
                              rcases Bool.eq_false_or_eq_true (sameF ((chN ep (pl + ((IntKind.wrap .u64 kk) % 1000)) (cur.take ((IntKind.wrap .u64 kk) % (cur.length : Int)).toNat) pl (-1)).1) (((chN ep (pl + ((IntKind.wrap .u64 kk) % 1000)) (cur ++ [0]) pl (-1)).1).take (((((chN ep (pl + ((IntKind.wrap .u64 kk) % 1000)) (cur.take ((IntKind.wrap .u64 kk) % (cur.length : Int)).toNat) pl (-1)).1).length : Nat) : Int)).toNat)) with h137 | h137
                              · -- (sameF ((chN ep (pl + ((IntKind.wrap .u64 kk) % 1000)) (cur.take ((IntKind.wrap .u64 kk) % (cur.length : Int)).toNat) pl (-1)).1) (((chN ep (pl + ((IntKind.wrap .u64 kk) % 1000)) (cur ++ [0]) pl (-1)).1).take (((((chN ep (pl + ((IntKind.wrap .u64 kk) % 1000)) (cur.take ((IntKind.wrap .u64 kk) % (cur.length : Int)).toNat) pl (-1)).1).length : Nat) : Int)).toNat))
                                refine c_flow3 [s73, [Hp.one b66 (.cells #[(.int .i64 ep), (.int .i64 (pl + ((IntKind.wrap .u64 kk) % 1000)))] 51 (0, 0))], R, s120] (fun i_ => match i_ with | _ => []) (fun i_ v_ h_ m_ => match i_ with | 0 => v_ = v119 ∧ h_ = [] | 1 => v_ = (.int .i64 ((((chN ep (pl + ((IntKind.wrap .u64 kk) % 1000)) (cur.take ((IntKind.wrap .u64 kk) % (cur.length : Int)).toNat) pl (-1)).1).length : Nat) : Int)) ∧ h_ = [] | 2 => v_ = v72 ∧ h_ = [] | 3 => v_ = (.int .i64 ((((chN ep (pl + ((IntKind.wrap .u64 kk) % 1000)) (cur ++ [0]) pl (-1)).1).length : Nat) : Int)) ∧ h_ = [] | 4 => v_ = (.bool (decide (((((chN ep (pl + ((IntKind.wrap .u64 kk) % 1000)) (cur.take ((IntKind.wrap .u64 kk) % (cur.length : Int)).toNat) pl (-1)).1).length : Nat) : Int) < ((((chN ep (pl + ((IntKind.wrap .u64 kk) % 1000)) (cur ++ [0]) pl (-1)).1).length : Nat) : Int)))) ∧ h_ = [] | 5 => v_ = (.bool (decide (((((chN ep (pl + ((IntKind.wrap .u64 kk) % 1000)) (cur.take ((IntKind.wrap .u64 kk) % (cur.length : Int)).toNat) pl (-1)).1).length : Nat) : Int) < ((((chN ep (pl + ((IntKind.wrap .u64 kk) % 1000)) (cur ++ [0]) pl (-1)).1).length : Nat) : Int)))) ∧ h_ = [] | 6 => v_ = (.int .i64 ((chN ep (pl + ((IntKind.wrap .u64 kk) % 1000)) (cur.take ((IntKind.wrap .u64 kk) % (cur.length : Int)).toNat) pl (-1)).2)) ∧ h_ = [] | 7 => v_ = (.int .i64 pl) ∧ h_ = [] | 8 => v_ = (.int .i64 ((IntKind.wrap .u64 kk) % (cur.length : Int))) ∧ h_ = [] | 9 => v_ = (.int .i64 (pl + ((IntKind.wrap .u64 kk) % (cur.length : Int)))) ∧ h_ = [] | 10 => v_ = (.bool (decide ((chN ep (pl + ((IntKind.wrap .u64 kk) % 1000)) (cur.take ((IntKind.wrap .u64 kk) % (cur.length : Int)).toNat) pl (-1)).2 ≤ pl + ((IntKind.wrap .u64 kk) % (cur.length : Int))))) ∧ h_ = [] | 11 => v_ = (.bool (decide ((chN ep (pl + ((IntKind.wrap .u64 kk) % 1000)) (cur.take ((IntKind.wrap .u64 kk) % (cur.length : Int)).toNat) pl (-1)).2 ≤ pl + ((IntKind.wrap .u64 kk) % (cur.length : Int))))) ∧ h_ = [] | 12 => v_ = (.bool (decide ((chN ep (pl + ((IntKind.wrap .u64 kk) % 1000)) (cur.take ((IntKind.wrap .u64 kk) % (cur.length : Int)).toNat) pl (-1)).2 ≤ pl + ((IntKind.wrap .u64 kk) % (cur.length : Int))))) ∧ h_ = [] | 13 => v_ = v119 ∧ h_ = [] | 14 => ∃ (v138 : Value) (s139 : List Hp), v_ = v138 ∧ h_ = s139 ∧ (Own 43 4 v138 ((chN ep (pl + ((IntKind.wrap .u64 kk) % 1000)) (cur.take ((IntKind.wrap .u64 kk) % (cur.length : Int)).toNat) pl (-1)).1).length (((chN ep (pl + ((IntKind.wrap .u64 kk) % 1000)) (cur.take ((IntKind.wrap .u64 kk) % (cur.length : Int)).toNat) pl (-1)).1).flatMap frC) s139) | 15 => v_ = v72 ∧ h_ = [] | 16 => v_ = v119 ∧ h_ = [] | 17 => v_ = (.int .i64 ((((chN ep (pl + ((IntKind.wrap .u64 kk) % 1000)) (cur.take ((IntKind.wrap .u64 kk) % (cur.length : Int)).toNat) pl (-1)).1).length : Nat) : Int)) ∧ h_ = [] | 18 => v_ = (headV v72 (((((chN ep (pl + ((IntKind.wrap .u64 kk) % 1000)) (cur.take ((IntKind.wrap .u64 kk) % (cur.length : Int)).toNat) pl (-1)).1).length : Nat) : Int)).toNat 4) ∧ h_ = [] | 19 => ∃ (v144 : Value) (s145 : List Hp), v_ = v144 ∧ h_ = s145 ∧ (Own 43 4 v144 (((chN ep (pl + ((IntKind.wrap .u64 kk) % 1000)) (cur ++ [0]) pl (-1)).1).take (((((chN ep (pl + ((IntKind.wrap .u64 kk) % 1000)) (cur.take ((IntKind.wrap .u64 kk) % (cur.length : Int)).toNat) pl (-1)).1).length : Nat) : Int)).toNat).length ((((chN ep (pl + ((IntKind.wrap .u64 kk) % 1000)) (cur ++ [0]) pl (-1)).1).take (((((chN ep (pl + ((IntKind.wrap .u64 kk) % 1000)) (cur.take ((IntKind.wrap .u64 kk) % (cur.length : Int)).toNat) pl (-1)).1).length : Nat) : Int)).toNat).flatMap frC) s145) | 20 => v_ = (.bool (sameF ((chN ep (pl + ((IntKind.wrap .u64 kk) % 1000)) (cur.take ((IntKind.wrap .u64 kk) % (cur.length : Int)).toNat) pl (-1)).1) (((chN ep (pl + ((IntKind.wrap .u64 kk) % 1000)) (cur ++ [0]) pl (-1)).1).take (((((chN ep (pl + ((IntKind.wrap .u64 kk) % 1000)) (cur.take ((IntKind.wrap .u64 kk) % (cur.length : Int)).toNat) pl (-1)).1).length : Nat) : Int)).toNat))) ∧ h_ = [] | 21 => v_ = (.bool (sameF ((chN ep (pl + ((IntKind.wrap .u64 kk) % 1000)) (cur.take ((IntKind.wrap .u64 kk) % (cur.length : Int)).toNat) pl (-1)).1) (((chN ep (pl + ((IntKind.wrap .u64 kk) % 1000)) (cur ++ [0]) pl (-1)).1).take (((((chN ep (pl + ((IntKind.wrap .u64 kk) % 1000)) (cur.take ((IntKind.wrap .u64 kk) % (cur.length : Int)).toNat) pl (-1)).1).length : Nat) : Int)).toNat))) ∧ h_ = [] | 22 => v_ = (.bool (sameF ((chN ep (pl + ((IntKind.wrap .u64 kk) % 1000)) (cur.take ((IntKind.wrap .u64 kk) % (cur.length : Int)).toNat) pl (-1)).1) (((chN ep (pl + ((IntKind.wrap .u64 kk) % 1000)) (cur ++ [0]) pl (-1)).1).take (((((chN ep (pl + ((IntKind.wrap .u64 kk) % 1000)) (cur.take ((IntKind.wrap .u64 kk) % (cur.length : Int)).toNat) pl (-1)).1).length : Nat) : Int)).toNat))) ∧ h_ = [] | 23 => v_ = (.bool true) ∧ h_ = [] | 24 => v_ = (.bool true) ∧ h_ = [] | 25 => v_ = (.bool true) ∧ h_ = [] | _ => True) mixed (by kernel_rfl) (flow_has (cs := []) hH130 rfl) ?_ ?_
                                · intro i_ o_ ho_ r' w' G hs_ ht
                                  match i_, ho_ with
                                  | 0, ho_ =>
                                    obtain rfl := Option.some.inj ho_
                                    have e16 : r' 16 = v119 := (ht.was 16 (by kernel_rfl)).trans e133_16
                                    have hG := ht.has.drop
                                    refine GOK.free rfl ?_
                                    refine o_move (v := v119) e16 ?_
                                    exact ⟨_, ⟨rfl, rfl⟩, hG⟩
                                  | 1, ho_ =>
                                    obtain rfl := Option.some.inj ho_
                                    obtain ⟨e147, eh0⟩ := (ht.done 0 _ rfl rfl).1
                                    have hG := ht.has.drop
                                    refine GOK.free rfl ?_
                                    refine o_lenS Tryd.underlying52 e147 ho121.sl ?_
                                    exact ⟨_, ⟨rfl, rfl⟩, hG⟩
                                  | 2, ho_ =>
                                    obtain rfl := Option.some.inj ho_
                                    have e12 : r' 12 = v72 := (ht.was 12 (by kernel_rfl)).trans e133_12
                                    have hG := ht.has.drop
                                    refine GOK.free rfl ?_
                                    refine o_move (v := v72) e12 ?_
                                    exact ⟨_, ⟨rfl, rfl⟩, hG⟩
                                  | 3, ho_ =>
                                    obtain rfl := Option.some.inj ho_
                                    obtain ⟨e149, eh2⟩ := (ht.done 2 _ rfl rfl).1
                                    have hG := ht.has.drop
                                    refine GOK.free rfl ?_
                                    refine o_lenS Tryd.underlying52 e149 ho74.sl ?_
                                    exact ⟨_, ⟨rfl, rfl⟩, hG⟩
                                  | 4, ho_ =>
                                    obtain rfl := Option.some.inj ho_
                                    obtain ⟨e148, eh1⟩ := (ht.done 1 _ rfl rfl).1
                                    obtain ⟨e150, eh3⟩ := (ht.done 3 _ rfl rfl).1
                                    have hG := ht.has.drop
                                    refine GOK.free rfl ?_
                                    refine o_lss (a := ((((chN ep (pl + ((IntKind.wrap .u64 kk) % 1000)) (cur.take ((IntKind.wrap .u64 kk) % (cur.length : Int)).toNat) pl (-1)).1).length : Nat) : Int)) (b := ((((chN ep (pl + ((IntKind.wrap .u64 kk) % 1000)) (cur ++ [0]) pl (-1)).1).length : Nat) : Int)) e148 e150 ?_
                                    exact ⟨_, ⟨rfl, rfl⟩, hG⟩
                                  | 5, ho_ =>
                                    obtain rfl := Option.some.inj ho_
                                    obtain ⟨e151, eh4⟩ := (ht.done 4 _ rfl rfl).1
                                    have hG := ht.has.drop
                                    refine GOK.free rfl ?_
                                    refine o_move (v := (.bool (decide (((((chN ep (pl + ((IntKind.wrap .u64 kk) % 1000)) (cur.take ((IntKind.wrap .u64 kk) % (cur.length : Int)).toNat) pl (-1)).1).length : Nat) : Int) < ((((chN ep (pl + ((IntKind.wrap .u64 kk) % 1000)) (cur ++ [0]) pl (-1)).1).length : Nat) : Int))))) e151 ?_
                                    exact ⟨_, ⟨rfl, rfl⟩, hG⟩
                                  | 6, ho_ =>
                                    obtain rfl := Option.some.inj ho_
                                    obtain ⟨e152, eh5⟩ := (ht.done 5 _ rfl rfl).1
                                    have e17 : r' 17 = (.int .i64 ((chN ep (pl + ((IntKind.wrap .u64 kk) % 1000)) (cur.take ((IntKind.wrap .u64 kk) % (cur.length : Int)).toNat) pl (-1)).2)) := (ht.was 17 (by kernel_rfl)).trans e133_17
                                    have hG := ht.has.drop
                                    refine GOK.on rfl rfl (Eq.trans e152 (congrArg Value.bool (decide_eq_true h135))) ?_
                                    refine o_move (v := (.int .i64 ((chN ep (pl + ((IntKind.wrap .u64 kk) % 1000)) (cur.take ((IntKind.wrap .u64 kk) % (cur.length : Int)).toNat) pl (-1)).2))) e17 ?_
                                    exact ⟨_, ⟨rfl, rfl⟩, hG⟩
                                  | 7, ho_ =>
                                    obtain rfl := Option.some.inj ho_
                                    obtain ⟨e152, eh5⟩ := (ht.done 5 _ rfl rfl).1
                                    have e1 : r' 1 = (.int .i64 pl) := (ht.was 1 (by kernel_rfl)).trans e133_1
                                    have hG := ht.has.drop
                                    refine GOK.on rfl rfl (Eq.trans e152 (congrArg Value.bool (decide_eq_true h135))) ?_
                                    refine o_move (v := (.int .i64 pl)) e1 ?_
                                    exact ⟨_, ⟨rfl, rfl⟩, hG⟩
                                  | 8, ho_ =>
                                    obtain rfl := Option.some.inj ho_
                                    obtain ⟨e152, eh5⟩ := (ht.done 5 _ rfl rfl).1
                                    have e15 : r' 15 = (.int .i64 ((IntKind.wrap .u64 kk) % (cur.length : Int))) := (ht.was 15 (by kernel_rfl)).trans e133_15
                                    have hG := ht.has.drop
                                    refine GOK.on rfl rfl (Eq.trans e152 (congrArg Value.bool (decide_eq_true h135))) ?_
                                    refine o_move (v := (.int .i64 ((IntKind.wrap .u64 kk) % (cur.length : Int)))) e15 ?_
                                    exact ⟨_, ⟨rfl, rfl⟩, hG⟩
                                  | 9, ho_ =>
                                    obtain rfl := Option.some.inj ho_
                                    obtain ⟨e152, eh5⟩ := (ht.done 5 _ rfl rfl).1
                                    obtain ⟨e154, eh7⟩ := (ht.done 7 _ rfl rfl).1
                                    obtain ⟨e155, eh8⟩ := (ht.done 8 _ rfl rfl).1
                                    have hG := ht.has.drop
                                    refine GOK.on rfl rfl (Eq.trans e152 (congrArg Value.bool (decide_eq_true h135))) ?_
                                    refine o_add (a := pl) (b := (IntKind.wrap .u64 kk) % (cur.length : Int)) e154 e155 (w64 (by omega) (by omega)) ?_
                                    exact ⟨_, ⟨rfl, rfl⟩, hG⟩
                                  | 10, ho_ =>
                                    obtain rfl := Option.some.inj ho_
                                    obtain ⟨e152, eh5⟩ := (ht.done 5 _ rfl rfl).1
                                    obtain ⟨e153, eh6⟩ := (ht.done 6 _ rfl rfl).1
                                    obtain ⟨e156, eh9⟩ := (ht.done 9 _ rfl rfl).1
                                    have hG := ht.has.drop
                                    refine GOK.on rfl rfl (Eq.trans e152 (congrArg Value.bool (decide_eq_true h135))) ?_
                                    refine o_leq (a := (chN ep (pl + ((IntKind.wrap .u64 kk) % 1000)) (cur.take ((IntKind.wrap .u64 kk) % (cur.length : Int)).toNat) pl (-1)).2) (b := pl + ((IntKind.wrap .u64 kk) % (cur.length : Int))) e153 e156 ?_
                                    exact ⟨_, ⟨rfl, rfl⟩, hG⟩
                                  | 11, ho_ =>
                                    obtain rfl := Option.some.inj ho_
                                    obtain ⟨e152, eh5⟩ := (ht.done 5 _ rfl rfl).1
                                    obtain ⟨e157, eh10⟩ := (ht.done 10 _ rfl rfl).1
                                    have hG := ht.has.drop
                                    refine GOK.free rfl ?_
                                    refine o_pick_t (u := (.bool (decide ((chN ep (pl + ((IntKind.wrap .u64 kk) % 1000)) (cur.take ((IntKind.wrap .u64 kk) % (cur.length : Int)).toNat) pl (-1)).2 ≤ pl + ((IntKind.wrap .u64 kk) % (cur.length : Int)))))) ((e152 : _ = _).trans (congrArg Value.bool (decide_eq_true h135))) e157 ?_
                                    exact ⟨_, ⟨rfl, rfl⟩, hG⟩
                                  | 12, ho_ =>
                                    obtain rfl := Option.some.inj ho_
                                    obtain ⟨e158, eh11⟩ := (ht.done 11 _ rfl rfl).1
                                    have hG := ht.has.drop
                                    refine GOK.free rfl ?_
                                    refine o_move (v := (.bool (decide ((chN ep (pl + ((IntKind.wrap .u64 kk) % 1000)) (cur.take ((IntKind.wrap .u64 kk) % (cur.length : Int)).toNat) pl (-1)).2 ≤ pl + ((IntKind.wrap .u64 kk) % (cur.length : Int)))))) e158 ?_
                                    exact ⟨_, ⟨rfl, rfl⟩, hG⟩
                                  | 13, ho_ =>
                                    obtain rfl := Option.some.inj ho_
                                    obtain ⟨e159, eh12⟩ := (ht.done 12 _ rfl rfl).1
                                    have e16 : r' 16 = v119 := (ht.was 16 (by kernel_rfl)).trans e133_16
                                    have hG := ht.has.drop
                                    refine GOK.on rfl rfl (Eq.trans e159 (congrArg Value.bool (decide_eq_true h136))) ?_
                                    refine o_move (v := v119) e16 ?_
                                    exact ⟨_, ⟨rfl, rfl⟩, hG⟩
                                  | 14, ho_ =>
                                    obtain rfl := Option.some.inj ho_
                                    obtain ⟨e159, eh12⟩ := (ht.done 12 _ rfl rfl).1
                                    obtain ⟨e160, eh13⟩ := (ht.done 13 _ rfl rfl).1
                                    have hG := ht.has.drop
                                    refine GOK.on rfl rfl (Eq.trans e159 (congrArg Value.bool (decide_eq_true h136))) ?_
                                    refine o_callf (vs := #[v119]) ca31 rfl (args1 e160) (told_c hG.all (l := (chN ep (pl + ((IntKind.wrap .u64 kk) % 1000)) (cur.take ((IntKind.wrap .u64 kk) % (cur.length : Int)).toNat) pl (-1)).1) (ho121.sl.mono (ht.fr s120 (by simp))) (by first | omega | (simp only [List.length_take]; omega))) ?_
                                    rintro _ w143 ⟨v138, s139, rfl, ho140, hX141⟩
                                    refine ⟨_, rfl, ?_⟩
                                    have hH142 := hX141.of_all1
                                    exact ⟨_, ⟨v138, s139, rfl, rfl, ho140⟩, hH142⟩
                                  | 15, ho_ =>
                                    obtain rfl := Option.some.inj ho_
                                    obtain ⟨e159, eh12⟩ := (ht.done 12 _ rfl rfl).1
                                    have e12 : r' 12 = v72 := (ht.was 12 (by kernel_rfl)).trans e133_12
                                    have hG := ht.has.drop
                                    refine GOK.on rfl rfl (Eq.trans e159 (congrArg Value.bool (decide_eq_true h136))) ?_
                                    refine o_move (v := v72) e12 ?_
                                    exact ⟨_, ⟨rfl, rfl⟩, hG⟩
                                  | 16, ho_ =>
                                    obtain rfl := Option.some.inj ho_
                                    obtain ⟨e159, eh12⟩ := (ht.done 12 _ rfl rfl).1
                                    have e16 : r' 16 = v119 := (ht.was 16 (by kernel_rfl)).trans e133_16
                                    have hG := ht.has.drop
                                    refine GOK.on rfl rfl (Eq.trans e159 (congrArg Value.bool (decide_eq_true h136))) ?_
                                    refine o_move (v := v119) e16 ?_
                                    exact ⟨_, ⟨rfl, rfl⟩, hG⟩
                                  | 17, ho_ =>
                                    obtain rfl := Option.some.inj ho_
                                    obtain ⟨e159, eh12⟩ := (ht.done 12 _ rfl rfl).1
                                    obtain ⟨e163, eh16⟩ := (ht.done 16 _ rfl rfl).1
                                    have hG := ht.has.drop
                                    refine GOK.on rfl rfl (Eq.trans e159 (congrArg Value.bool (decide_eq_true h136))) ?_
                                    refine o_lenS Tryd.underlying52 e163 ho121.sl ?_
                                    exact ⟨_, ⟨rfl, rfl⟩, hG⟩
                                  | 18, ho_ =>
                                    obtain rfl := Option.some.inj ho_
                                    obtain ⟨e159, eh12⟩ := (ht.done 12 _ rfl rfl).1
                                    obtain ⟨e162, eh15⟩ := (ht.done 15 _ rfl rfl).1
                                    obtain ⟨e164, eh17⟩ := (ht.done 17 _ rfl rfl).1
                                    have hG := ht.has.drop
                                    refine GOK.on rfl rfl (Eq.trans e159 (congrArg Value.bool (decide_eq_true h136))) ?_
                                    refine o_slh Tryd.underlying52 ti40 e162 ho74.sl e164 (by omega) (by omega) ?_
                                    exact ⟨_, ⟨rfl, rfl⟩, hG⟩
                                  | 19, ho_ =>
                                    obtain rfl := Option.some.inj ho_
                                    obtain ⟨e159, eh12⟩ := (ht.done 12 _ rfl rfl).1
                                    obtain ⟨v138, s139, e161, eh14, ho140⟩ := (ht.done 14 _ rfl rfl).1
                                    obtain ⟨e165, eh18⟩ := (ht.done 18 _ rfl rfl).1
                                    have hG := ht.has.drop
                                    refine GOK.on rfl rfl (Eq.trans e159 (congrArg Value.bool (decide_eq_true h136))) ?_
                                    refine o_callf (vs := #[(headV v72 (((((chN ep (pl + ((IntKind.wrap .u64 kk) % 1000)) (cur.take ((IntKind.wrap .u64 kk) % (cur.length : Int)).toNat) pl (-1)).1).length : Nat) : Int)).toNat 4)]) ca31 rfl (args1 e165) (told_c hG.all (l := ((chN ep (pl + ((IntKind.wrap .u64 kk) % 1000)) (cur ++ [0]) pl (-1)).1).take (((((chN ep (pl + ((IntKind.wrap .u64 kk) % 1000)) (cur.take ((IntKind.wrap .u64 kk) % (cur.length : Int)).toNat) pl (-1)).1).length : Nat) : Int)).toNat) ((sl_headf (f := frC) (fun _ => rfl) ho74.sl (show (((((chN ep (pl + ((IntKind.wrap .u64 kk) % 1000)) (cur.take ((IntKind.wrap .u64 kk) % (cur.length : Int)).toNat) pl (-1)).1).length : Nat) : Int)).toNat ≤ ((chN ep (pl + ((IntKind.wrap .u64 kk) % 1000)) (cur ++ [0]) pl (-1)).1).length by omega)).mono (ht.fr s73 (by simp))) (by first | omega | (simp only [List.length_take]; omega))) ?_
                                    rintro _ w149 ⟨v144, s145, rfl, ho146, hX147⟩
                                    refine ⟨_, rfl, ?_⟩
                                    have hH148 := hX147.of_all1
                                    exact ⟨_, ⟨v144, s145, rfl, rfl, ho146⟩, hH148⟩
                                  | 20, ho_ =>
                                    obtain rfl := Option.some.inj ho_
                                    obtain ⟨e159, eh12⟩ := (ht.done 12 _ rfl rfl).1
                                    obtain ⟨v138, s139, e161, eh14, ho140⟩ := (ht.done 14 _ rfl rfl).1
                                    obtain ⟨v144, s145, e166, eh19, ho146⟩ := (ht.done 19 _ rfl rfl).1
                                    have hG := ht.has.drop
                                    refine GOK.on rfl rfl (Eq.trans e159 (congrArg Value.bool (decide_eq_true h136))) ?_
                                    refine o_callf (vs := #[v138, v144]) ca30 rfl (args2 e161 e166) (same3_c hG.all (a := (chN ep (pl + ((IntKind.wrap .u64 kk) % 1000)) (cur.take ((IntKind.wrap .u64 kk) % (cur.length : Int)).toNat) pl (-1)).1) (b := ((chN ep (pl + ((IntKind.wrap .u64 kk) % 1000)) (cur ++ [0]) pl (-1)).1).take (((((chN ep (pl + ((IntKind.wrap .u64 kk) % 1000)) (cur.take ((IntKind.wrap .u64 kk) % (cur.length : Int)).toNat) pl (-1)).1).length : Nat) : Int)).toNat) (ho140.sl.mono (eh14 ▸ (ht.done 14 _ rfl rfl).2)) (ho146.sl.mono (eh19 ▸ (ht.done 19 _ rfl rfl).2))) ?_
                                    rintro _ w152 ⟨rfl, hX150⟩
                                    refine ⟨_, rfl, ?_⟩
                                    have hH151 := hX150.of_all
                                    exact ⟨_, ⟨rfl, rfl⟩, hH151⟩
                                  | 21, ho_ =>
                                    obtain rfl := Option.some.inj ho_
                                    obtain ⟨e159, eh12⟩ := (ht.done 12 _ rfl rfl).1
                                    obtain ⟨v138, s139, e161, eh14, ho140⟩ := (ht.done 14 _ rfl rfl).1
                                    obtain ⟨v144, s145, e166, eh19, ho146⟩ := (ht.done 19 _ rfl rfl).1
                                    obtain ⟨e167, eh20⟩ := (ht.done 20 _ rfl rfl).1
                                    have hG := ht.has.drop
                                    refine GOK.free rfl ?_
                                    refine o_pick_t (u := (.bool (sameF ((chN ep (pl + ((IntKind.wrap .u64 kk) % 1000)) (cur.take ((IntKind.wrap .u64 kk) % (cur.length : Int)).toNat) pl (-1)).1) (((chN ep (pl + ((IntKind.wrap .u64 kk) % 1000)) (cur ++ [0]) pl (-1)).1).take (((((chN ep (pl + ((IntKind.wrap .u64 kk) % 1000)) (cur.take ((IntKind.wrap .u64 kk) % (cur.length : Int)).toNat) pl (-1)).1).length : Nat) : Int)).toNat)))) ((e159 : _ = _).trans (congrArg Value.bool (decide_eq_true h136))) e167 ?_
                                    exact ⟨_, ⟨rfl, rfl⟩, hG⟩
                                  | 22, ho_ =>
                                    obtain rfl := Option.some.inj ho_
                                    obtain ⟨v138, s139, e161, eh14, ho140⟩ := (ht.done 14 _ rfl rfl).1
                                    obtain ⟨v144, s145, e166, eh19, ho146⟩ := (ht.done 19 _ rfl rfl).1
                                    obtain ⟨e168, eh21⟩ := (ht.done 21 _ rfl rfl).1
                                    have hG := ht.has.drop
                                    refine GOK.free rfl ?_
                                    refine o_move (v := (.bool (sameF ((chN ep (pl + ((IntKind.wrap .u64 kk) % 1000)) (cur.take ((IntKind.wrap .u64 kk) % (cur.length : Int)).toNat) pl (-1)).1) (((chN ep (pl + ((IntKind.wrap .u64 kk) % 1000)) (cur ++ [0]) pl (-1)).1).take (((((chN ep (pl + ((IntKind.wrap .u64 kk) % 1000)) (cur.take ((IntKind.wrap .u64 kk) % (cur.length : Int)).toNat) pl (-1)).1).length : Nat) : Int)).toNat)))) e168 ?_
                                    exact ⟨_, ⟨rfl, rfl⟩, hG⟩
                                  | 23, ho_ =>
                                    obtain rfl := Option.some.inj ho_
                                    obtain ⟨v138, s139, e161, eh14, ho140⟩ := (ht.done 14 _ rfl rfl).1
                                    obtain ⟨v144, s145, e166, eh19, ho146⟩ := (ht.done 19 _ rfl rfl).1
                                    obtain ⟨e169, eh22⟩ := (ht.done 22 _ rfl rfl).1
                                    have hG := ht.has.drop
                                    refine GOK.on rfl rfl (Eq.trans e169 (congrArg Value.bool h137)) ?_
                                    refine o_callf (vs := #[]) ca23 rfl (args0) (awake3_c hG.all (hg.mono (ht.fr R (by simp)))) ?_
                                    rintro _ w155 ⟨rfl, hX153⟩
                                    refine ⟨_, rfl, ?_⟩
                                    have hH154 := hX153.of_all
                                    exact ⟨_, ⟨rfl, rfl⟩, hH154⟩
                                  | 24, ho_ =>
                                    obtain rfl := Option.some.inj ho_
                                    obtain ⟨v138, s139, e161, eh14, ho140⟩ := (ht.done 14 _ rfl rfl).1
                                    obtain ⟨v144, s145, e166, eh19, ho146⟩ := (ht.done 19 _ rfl rfl).1
                                    obtain ⟨e169, eh22⟩ := (ht.done 22 _ rfl rfl).1
                                    obtain ⟨e170, eh23⟩ := (ht.done 23 _ rfl rfl).1
                                    have hG := ht.has.drop
                                    refine GOK.free rfl ?_
                                    refine o_pick_t (u := (.bool true)) ((e169 : _ = _).trans (congrArg Value.bool h137)) e170 ?_
                                    exact ⟨_, ⟨rfl, rfl⟩, hG⟩
                                  | 25, ho_ =>
                                    obtain rfl := Option.some.inj ho_
                                    obtain ⟨v138, s139, e161, eh14, ho140⟩ := (ht.done 14 _ rfl rfl).1
                                    obtain ⟨v144, s145, e166, eh19, ho146⟩ := (ht.done 19 _ rfl rfl).1
                                    obtain ⟨e171, eh24⟩ := (ht.done 24 _ rfl rfl).1
                                    have hG := ht.has.drop
                                    refine GOK.free rfl ?_
                                    refine o_assign (v := (.bool true)) e171 ?_
                                    exact ⟨_, ⟨rfl, rfl⟩, hG⟩
                                  | i_ + 26, ho_ => exact absurd ho_ (by simp)
                                · intro vs156 hs157 w158 hT159 hH160
                                  obtain ⟨e0_, eh0_⟩ := hT159 0 _ rfl
                                  obtain ⟨e1_, eh1_⟩ := hT159 1 _ rfl
                                  obtain ⟨e2_, eh2_⟩ := hT159 2 _ rfl
                                  obtain ⟨e3_, eh3_⟩ := hT159 3 _ rfl
                                  obtain ⟨e4_, eh4_⟩ := hT159 4 _ rfl
                                  obtain ⟨e5_, eh5_⟩ := hT159 5 _ rfl
                                  obtain ⟨e6_, eh6_⟩ := hT159 6 _ rfl
                                  obtain ⟨e7_, eh7_⟩ := hT159 7 _ rfl
                                  obtain ⟨e8_, eh8_⟩ := hT159 8 _ rfl
                                  obtain ⟨e9_, eh9_⟩ := hT159 9 _ rfl
                                  obtain ⟨e10_, eh10_⟩ := hT159 10 _ rfl
                                  obtain ⟨e11_, eh11_⟩ := hT159 11 _ rfl
                                  obtain ⟨e12_, eh12_⟩ := hT159 12 _ rfl
                                  obtain ⟨e13_, eh13_⟩ := hT159 13 _ rfl
                                  obtain ⟨v138, s139, e14_, eh14_, ho140⟩ := hT159 14 _ rfl
                                  obtain ⟨e15_, eh15_⟩ := hT159 15 _ rfl
                                  obtain ⟨e16_, eh16_⟩ := hT159 16 _ rfl
                                  obtain ⟨e17_, eh17_⟩ := hT159 17 _ rfl
                                  obtain ⟨e18_, eh18_⟩ := hT159 18 _ rfl
                                  obtain ⟨v144, s145, e19_, eh19_, ho146⟩ := hT159 19 _ rfl
                                  obtain ⟨e20_, eh20_⟩ := hT159 20 _ rfl
                                  obtain ⟨e21_, eh21_⟩ := hT159 21 _ rfl
                                  obtain ⟨e22_, eh22_⟩ := hT159 22 _ rfl
                                  obtain ⟨e23_, eh23_⟩ := hT159 23 _ rfl
                                  obtain ⟨e24_, eh24_⟩ := hT159 24 _ rfl
                                  obtain ⟨e25_, eh25_⟩ := hT159 25 _ rfl
                                  have hH161 : Has E w158 ([s73, [Hp.one b66 (.cells #[(.int .i64 ep), (.int .i64 (pl + ((IntKind.wrap .u64 kk) % 1000)))] 51 (0, 0))], R, s120] ++ [s139, s145]) := flow_back (cs := [s139, s145]) hH160 (by show (hs157 0 ++ (hs157 1 ++ (hs157 2 ++ (hs157 3 ++ (hs157 4 ++ (hs157 5 ++ (hs157 6 ++ (hs157 7 ++ (hs157 8 ++ (hs157 9 ++ (hs157 10 ++ (hs157 11 ++ (hs157 12 ++ (hs157 13 ++ (hs157 14 ++ (hs157 15 ++ (hs157 16 ++ (hs157 17 ++ (hs157 18 ++ (hs157 19 ++ (hs157 20 ++ (hs157 21 ++ (hs157 22 ++ (hs157 23 ++ (hs157 24 ++ (hs157 25 ++ [])))))))))))))))))))))))))) = _; rw [eh0_, eh1_, eh2_, eh3_, eh4_, eh5_, eh6_, eh7_, eh8_, eh9_, eh10_, eh11_, eh12_, eh13_, eh14_, eh15_, eh16_, eh17_, eh18_, eh19_, eh20_, eh21_, eh22_, eh23_, eh24_, eh25_]; rfl)
                                  generalize hr163 : puts vs156 _ 0 _ = r162
                                  have e164_0 : r162 0 = (.int .i64 ep) := by rw [← hr163]; exact e133_0
                                  have e164_1 : r162 1 = (.int .i64 pl) := by rw [← hr163]; exact e133_1
                                  have e164_2 : r162 2 = v := by rw [← hr163]; exact e133_2
                                  have e164_3 : r162 3 = (.int .i64 kk) := by rw [← hr163]; exact e133_3
                                  have e164_8 : r162 8 = (.bool true) := by rw [← hr163]; exact e25_
                                  have e164_9 : r162 9 = (S cur) := by rw [← hr163]; exact e133_9
                                  have e164_10 : r162 10 = (.int .i64 (k : Int)) := by rw [← hr163]; exact e133_10
                                  have e164_11 : r162 11 = (.pointer (some ⟨b66, 0, none⟩)) := by rw [← hr163]; exact e133_11
                                  have e164_12 : r162 12 = v72 := by rw [← hr163]; exact e133_12
                                  have e164_13 : r162 13 = (.int .i64 ((chN ep (pl + ((IntKind.wrap .u64 kk) % 1000)) (cur ++ [0]) pl (-1)).2)) := by rw [← hr163]; exact e133_13
                                  have e164_14 : r162 14 = (.int .i64 (i : Int)) := by rw [← hr163]; exact e133_14
                                  have e164_15 : r162 15 = (.int .i64 ((IntKind.wrap .u64 kk) % (cur.length : Int))) := by rw [← hr163]; exact e133_15
                                  have e164_16 : r162 16 = v119 := by rw [← hr163]; exact e133_16
                                  have e164_17 : r162 17 = (.int .i64 ((chN ep (pl + ((IntKind.wrap .u64 kk) % 1000)) (cur.take ((IntKind.wrap .u64 kk) % (cur.length : Int)).toNat) pl (-1)).2)) := by rw [← hr163]; exact e133_17
                                  have e164_41 : r162 41 = (.bool (decide (1073741824 < ep))) := by rw [← hr163]; exact e133_41
                                  have e164_46 : r162 46 = (.bool (decide ((k : Int) < ((dl.length : Nat) : Int)))) := by rw [← hr163]; exact e133_46
                                  have e164_104 : r162 104 = (.bool (decide ((cur.length : Int) = 0))) := by rw [← hr163]; exact e133_104
                                  have e164_108 : r162 108 = (.bool (decide ((i : Int) < ((((chN ep (pl + ((IntKind.wrap .u64 kk) % 1000)) (cur ++ [0]) pl (-1)).1).length : Nat) : Int)))) := by rw [← hr163]; exact e133_108
                                  refine t_norm (hK134 _ _ ?_)
                                  refine wp_ret ?_
                                  refine c_ret1 Tryd.results10  (v := (.bool true)) e164_8 ?_
                                  have hH165 : Has E w158 [R] := (hH161.front 2 rfl).first 1 rfl
                                  exact ⟨rfl, hH165⟩
                              · -- not: (sameF ((chN ep (pl + ((IntKind.wrap .u64 kk) % 1000)) (cur.take ((IntKind.wrap .u64 kk) % (cur.length : Int)).toNat) pl (-1)).1) (((chN ep (pl + ((IntKind.wrap .u64 kk) % 1000)) (cur ++ [0]) pl (-1)).1).take (((((chN ep (pl + ((IntKind.wrap .u64 kk) % 1000)) (cur.take ((IntKind.wrap .u64 kk) % (cur.length : Int)).toNat) pl (-1)).1).length : Nat) : Int)).toNat))
                                exact absurd (h137.symm.trans (sameF_iff.2 (by rw [Int.toNat_natCast, hl2, hL1, hj2]))) (by decide)
                            · -- not: (chN ep (pl + ((IntKind.wrap .u64 kk) % 1000)) (cur.take ((IntKind.wrap .u64 kk) % (cur.length : Int)).toNat) pl (-1)).2 ≤ pl + ((IntKind.wrap .u64 kk) % (cur.length : Int))
                              exfalso; omega
                          · -- not: ((((chN ep (pl + ((IntKind.wrap .u64 kk) % 1000)) (cur.take ((IntKind.wrap .u64 kk) % (cur.length : Int)).toNat) pl (-1)).1).length : Nat) : Int) < ((((chN ep (pl + ((IntKind.wrap .u64 kk) % 1000)) (cur ++ [0]) pl (-1)).1).length : Nat) : Int)
                            obtain ⟨j, hj1, hj2, hj3⟩ := (hbc (pl + ((IntKind.wrap .u64 kk) % 1000))).2 ((IntKind.wrap .u64 kk) % (cur.length : Int)).toNat (by omega)
                            have hl2 : (chN ep (pl + ((IntKind.wrap .u64 kk) % 1000)) (cur.take ((IntKind.wrap .u64 kk) % (cur.length : Int)).toNat) pl (-1)).1.length = j := by rw [hj2, List.length_take, frs_len]; omega
                            exfalso; omega
end Go.Q
