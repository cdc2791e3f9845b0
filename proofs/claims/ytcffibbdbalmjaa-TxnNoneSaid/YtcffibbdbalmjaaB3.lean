/-
  Parts of a walk: what functions of the program compute, each told by a theorem (QERc3, QCut, QApp, QETx1, QK, QKV, QDir, QTxn, QETx2, QETx3, QTxnB, QETxH, QETx4).
-/
import Derived.Test.YtcffibbdbalmjaaB2
import Derived.ArgAppend
import Derived.MapKept
set_option linter.unusedVariables false
set_option linter.unusedSimpArgs false
namespace Go.Q
open Go.Proofs
set_option linter.unusedVariables false
set_option maxRecDepth 100000
attribute [local irreducible] wpList OK Code.wp
set_option maxHeartbeats 4000000 in
theorem key_c {E w : World} {R : List Hp} {v_l : Value} {l : List (List UInt8)}  (hH : Has E w [R]) (h_l : Sl R 1 v_l l.length (l.map sV)) :
    Calls Try.prog 199 #[v_l] w fun e w' => e = .returned (.bool (l.all keyR)) ∧ Has E w' [R] := by
  refine c_enter (args := [v_l]) Try.func199 rfl Try.ntmps199 (by simp) ?_
  refine wp_seq_k fun K1 hK1 => ?_
  refine c_region ?_
  refine s_op (o_assign (v := (.bool false)) rfl ?_)
  refine s_nil ?_
  refine t_norm (hK1 _ _ ?_)
  refine wp_seq_k fun K2 hK2 => ?_
  refine c_region ?_
  refine s_op (o_assign (v := (.func (.func 217) #[] #[])) rfl ?_)
  refine s_nil ?_
  refine t_norm (hK2 _ _ ?_)
  refine wp_seq_k fun K3 hK3 => ?_
  refine c_region ?_
  refine s_op (o_move (v := v_l) rfl ?_)
  refine s_op (o_move (v := (.func (.func 217) #[] #[])) rfl ?_)
  refine s_op (o_callf (vs := #[v_l, (.func (.func 217) #[] #[])]) ca218 rfl (args2 rfl rfl) (alls_c (l := l) (c := keyR) (va := fun v_ => #[v_]) hH.all (h_l.mono (seg_sub 0 rfl)) ca217 (fun _ => by simp) (fun F_ x_ h_ => Calls.frameF (keyf_c (k := x_) h_.all))) ?_)
  rintro _ w6 ⟨rfl, hX4⟩
  refine ⟨_, rfl, ?_⟩
  have hH5 := hX4.of_all
  refine s_op (o_assign (v := (.bool (l.all keyR))) rfl ?_)
  refine s_nil ?_
  refine t_norm (hK3 _ _ ?_)
  refine wp_ret ?_
  refine c_ret1 Try.results199  (v := (.bool (l.all keyR))) rfl ?_
  exact ⟨rfl, hH5⟩
set_option maxHeartbeats 4000000 in
theorem value_c {E w : World} {R : List Hp} {v_l : Value} {l : List (Bool × Bs)}  (hH : Has E w [R]) (h_l : Sl R 2 v_l l.length (l.flatMap vlC)) :
    Calls Try.prog 200 #[v_l] w fun e w' => e = .returned (.bool (l.all valR)) ∧ Has E w' [R] := by
  refine c_enter (args := [v_l]) Try.func200 rfl Try.ntmps200 (by simp) ?_
  refine wp_seq_k fun K1 hK1 => ?_
  refine c_region ?_
  refine s_op (o_assign (v := (.bool false)) rfl ?_)
  refine s_nil ?_
  refine t_norm (hK1 _ _ ?_)
  refine wp_seq_k fun K2 hK2 => ?_
  refine c_region ?_
  refine s_op (o_assign (v := (.func (.func 219) #[] #[])) rfl ?_)
  refine s_nil ?_
  refine t_norm (hK2 _ _ ?_)
  refine wp_seq_k fun K3 hK3 => ?_
  refine c_region ?_
  refine s_op (o_move (v := v_l) rfl ?_)
  refine s_op (o_move (v := (.func (.func 219) #[] #[])) rfl ?_)
  refine s_op (o_callf (vs := #[v_l, (.func (.func 219) #[] #[])]) ca220 rfl (args2 rfl rfl) (allv_c (l := l) (c := valR) (va := fun v_ => #[v_]) hH.all (h_l.mono (seg_sub 0 rfl)) ca219 (fun _ => by simp) (fun F_ x_ h_ => Calls.frameF (valf_c (v := x_) h_.all))) ?_)
  rintro _ w6 ⟨rfl, hX4⟩
  refine ⟨_, rfl, ?_⟩
  have hH5 := hX4.of_all
  refine s_op (o_assign (v := (.bool (l.all valR))) rfl ?_)
  refine s_nil ?_
  refine t_norm (hK3 _ _ ?_)
  refine wp_ret ?_
  refine c_ret1 Try.results200  (v := (.bool (l.all valR))) rfl ?_
  exact ⟨rfl, hH5⟩
set_option maxHeartbeats 4000000 in
theorem body_c {E w : World} {R : List Hp} {r : Rec}  (hH : Has E w [R]) :
    Calls Try.prog 176 #[(.agg #[(.int .i64 r.kind), (.int .i64 r.gsn), (.int .i64 r.txn), (.int .i64 r.prev), (.int .i64 r.page), (S r.key), (.bool r.bh), (S r.bv), (.bool r.ah), (S r.av), (.int .i64 r.undo)])] w fun e w' => e = .returned (.bool (bodyR r)) ∧ Has E w' [R] := by
  refine c_enter (args := [(.agg #[(.int .i64 r.kind), (.int .i64 r.gsn), (.int .i64 r.txn), (.int .i64 r.prev), (.int .i64 r.page), (S r.key), (.bool r.bh), (S r.bv), (.bool r.ah), (S r.av), (.int .i64 r.undo)])]) Try.func176 rfl Try.ntmps176 (by simp) ?_
  refine wp_seq_k fun K1 hK1 => ?_
  refine c_region ?_
  refine s_op (o_box (cs := #[(.int .i64 r.kind), (.int .i64 r.gsn), (.int .i64 r.txn), (.int .i64 r.prev), (.int .i64 r.page), (S r.key), (.bool r.bh), (S r.bv), (.bool r.ah), (S r.av), (.int .i64 r.undo)]) rfl rfl hH fun b2 w3 hH4 => ?_)
  refine s_op (o_assign (v := (.bool false)) rfl ?_)
  refine s_nil ?_
  refine t_norm (hK1 _ _ ?_)
  refine wp_seq_k fun K5 hK5 => ?_
  refine wp_seq_k fun K6 hK6 => ?_
  refine c_region ?_
  refine s_op (o_fieldAddr (k := 0) (fun _ => by kernel_rfl) rfl ?_)
  refine s_op (o_load1 (v := (.int .i64 r.kind)) Try.underlying3 rfl rfl hH4 (seg_sub 0 rfl) (CellsAt.one rfl) ?_)
  refine s_op (o_callf (vs := #[(.int .i64 r.kind)]) ca198 rfl (args1 rfl) (changes_c (kind := r.kind) hH4.all ) ?_)
  rintro _ w9 ⟨rfl, hX7⟩
  refine ⟨_, rfl, ?_⟩
  have hH8 := hX7.of_all
  refine s_op (o_not rfl ?_)
  refine s_nil ?_
  refine t_norm (hK6 _ _ ?_)
  refine c_condb rfl (fun h10 => ?_) (fun h10 => ?_)
  · -- !(chgR r.kind)
    have h10_n : (chgR r.kind) = false := by simpa using h10
    refine wp_seq_k fun K11 hK11 => ?_
    refine c_region ?_
    refine s_op (o_fieldAddr (k := 4) (fun _ => by kernel_rfl) rfl ?_)
    refine s_op (o_load1 (v := (.int .i64 r.page)) Try.underlying3 rfl rfl hH8 (seg_sub 0 rfl) (CellsAt.one rfl) ?_)
    refine s_op (o_eql (a := r.page) (b := 0) rfl rfl ?_)
    refine s_op (o_move (v := (.bool (decide (r.page = 0)))) rfl ?_)
    by_cases h12 : r.page = 0
    · -- r.page = 0
      refine s_on 10 rfl (congrArg Value.bool (decide_eq_true h12)) (o_fieldAddr (k := 5) (fun _ => by kernel_rfl) rfl ?_)
      refine s_on 10 rfl (congrArg Value.bool (decide_eq_true h12)) (o_load1 (v := (S r.key)) Try.underlying9 rfl rfl hH8 (seg_sub 0 rfl) (CellsAt.one rfl) ?_)
      refine s_on 10 rfl (congrArg Value.bool (decide_eq_true h12)) (o_seql (a := r.key) (b := ([] : List UInt8)) rfl rfl ?_)
      refine s_op (o_pick_t (u := (.bool (decide (r.key = ([] : List UInt8))))) ((rfl : _ = _).trans (congrArg Value.bool (decide_eq_true h12))) rfl ?_)
      refine s_op (o_move (v := (.bool (decide (r.key = ([] : List UInt8))))) rfl ?_)
      by_cases h13 : r.key = ([] : List UInt8)
      · -- r.key = ([] : List UInt8)
        refine s_on 15 rfl (congrArg Value.bool (decide_eq_true h13)) (o_fieldAddr (k := 6) (fun _ => by kernel_rfl) rfl ?_)
        refine s_on 15 rfl (congrArg Value.bool (decide_eq_true h13)) (o_loadN (cs := [(.bool r.bh), (S r.bv)]) Try.underlying30 rfl ti30 rfl hH8 (seg_sub 0 rfl) (CellsAt.one rfl) ?_)
        refine s_on 15 rfl (congrArg Value.bool (decide_eq_true h13)) (o_sight (v := (.agg #[(.bool false), (S ([] : List UInt8))])) (fun _ => by kernel_rfl) ?_)
        refine s_on 15 rfl (congrArg Value.bool (decide_eq_true h13)) (o_eql30 r.bh r.bv false ([] : List UInt8) rfl rfl ?_)
        refine s_op (o_pick_t (u := (.bool (eqv30 r.bh r.bv false ([] : List UInt8)))) ((rfl : _ = _).trans (congrArg Value.bool (decide_eq_true h13))) rfl ?_)
        refine s_op (o_move (v := (.bool (eqv30 r.bh r.bv false ([] : List UInt8)))) rfl ?_)
        rcases Bool.eq_false_or_eq_true (eqv30 r.bh r.bv false ([] : List UInt8)) with h14 | h14
        · -- eqv30 r.bh r.bv false ([] : List UInt8)
          refine s_on 21 rfl (congrArg Value.bool h14) (o_fieldAddr (k := 8) (fun _ => by kernel_rfl) rfl ?_)
          refine s_on 21 rfl (congrArg Value.bool h14) (o_loadN (cs := [(.bool r.ah), (S r.av)]) Try.underlying30 rfl ti30 rfl hH8 (seg_sub 0 rfl) (CellsAt.one rfl) ?_)
          refine s_on 21 rfl (congrArg Value.bool h14) (o_sight (v := (.agg #[(.bool false), (S ([] : List UInt8))])) (fun _ => by kernel_rfl) ?_)
          refine s_on 21 rfl (congrArg Value.bool h14) (o_eql30 r.ah r.av false ([] : List UInt8) rfl rfl ?_)
          refine s_op (o_pick_t (u := (.bool (eqv30 r.ah r.av false ([] : List UInt8)))) ((rfl : _ = _).trans (congrArg Value.bool h14)) rfl ?_)
          refine s_op (o_assign (v := (.bool (eqv30 r.ah r.av false ([] : List UInt8)))) rfl ?_)
          refine s_nil ?_
          refine t_norm (hK11 _ _ ?_)
          refine wp_ret ?_
          refine t_ret (c_ret1 Try.results176  (v := (.bool (eqv30 r.ah r.av false ([] : List UInt8)))) rfl ?_)
          have q15 : (bodyR r) = eqv30 r.ah r.av false ([] : List UInt8) := by (try simp at h10); simp only [eqv30_dec] at h14; (try simp only [eqv30_dec]); rw [Bool.eq_iff_iff]; first | (simp [bodyR, h10, h10_n, h12, h13, h14]; done) | (simp_all [bodyR]; done)
          have hH16 : Has E w9 [R] := (hH8.front 1 rfl).first 1 rfl
          exact ⟨by rw [q15], hH16⟩
        · -- not: eqv30 r.bh r.bv false ([] : List UInt8)
          refine s_off (b' := false) 21 rfl (congrArg Value.bool h14) rfl ?_
          refine s_off (b' := false) 21 rfl (congrArg Value.bool h14) rfl ?_
          refine s_off (b' := false) 21 rfl (congrArg Value.bool h14) rfl ?_
          refine s_off (b' := false) 21 rfl (congrArg Value.bool h14) rfl ?_
          refine s_op (o_pick_f (u := (.bool false)) ((rfl : _ = _).trans (congrArg Value.bool h14)) rfl ?_)
          refine s_op (o_assign (v := (.bool false)) rfl ?_)
          refine s_nil ?_
          refine t_norm (hK11 _ _ ?_)
          refine wp_ret ?_
          refine t_ret (c_ret1 Try.results176  (v := (.bool false)) rfl ?_)
          have q17 : (bodyR r) = false := by (try simp at h10); simp only [eqv30_dec] at h14; (try simp only [eqv30_dec]); rw [Bool.eq_iff_iff]; first | (simp [bodyR, h10, h10_n, h12, h13, h14]; done) | (simp_all [bodyR]; done)
          have hH18 : Has E w9 [R] := (hH8.front 1 rfl).first 1 rfl
          exact ⟨by rw [q17], hH18⟩
      · -- not: r.key = ([] : List UInt8)
        refine s_off (b' := false) 15 rfl (congrArg Value.bool (decide_eq_false h13)) rfl ?_
        refine s_off (b' := false) 15 rfl (congrArg Value.bool (decide_eq_false h13)) rfl ?_
        refine s_off (b' := false) 15 rfl (congrArg Value.bool (decide_eq_false h13)) rfl ?_
        refine s_off (b' := false) 15 rfl (congrArg Value.bool (decide_eq_false h13)) rfl ?_
        refine s_op (o_pick_f (u := (.bool false)) ((rfl : _ = _).trans (congrArg Value.bool (decide_eq_false h13))) rfl ?_)
        refine s_op (o_move (v := (.bool false)) rfl ?_)
        refine s_off (b' := false) 21 rfl rfl rfl ?_
        refine s_off (b' := false) 21 rfl rfl rfl ?_
        refine s_off (b' := false) 21 rfl rfl rfl ?_
        refine s_off (b' := false) 21 rfl rfl rfl ?_
        refine s_op (o_pick_f (u := (.bool false)) rfl rfl ?_)
        refine s_op (o_assign (v := (.bool false)) rfl ?_)
        refine s_nil ?_
        refine t_norm (hK11 _ _ ?_)
        refine wp_ret ?_
        refine t_ret (c_ret1 Try.results176  (v := (.bool false)) rfl ?_)
        have q19 : (bodyR r) = false := by (try simp at h10); (try simp only [eqv30_dec]); rw [Bool.eq_iff_iff]; first | (simp [bodyR, h10, h10_n, h12, h13]; done) | (simp_all [bodyR]; done)
        have hH20 : Has E w9 [R] := (hH8.front 1 rfl).first 1 rfl
        exact ⟨by rw [q19], hH20⟩
    · -- not: r.page = 0
      refine s_off (b' := false) 10 rfl (congrArg Value.bool (decide_eq_false h12)) rfl ?_
      refine s_off (b' := false) 10 rfl (congrArg Value.bool (decide_eq_false h12)) rfl ?_
      refine s_off (b' := false) 10 rfl (congrArg Value.bool (decide_eq_false h12)) rfl ?_
      refine s_op (o_pick_f (u := (.bool false)) ((rfl : _ = _).trans (congrArg Value.bool (decide_eq_false h12))) rfl ?_)
      refine s_op (o_move (v := (.bool false)) rfl ?_)
      refine s_off (b' := false) 15 rfl rfl rfl ?_
      refine s_off (b' := false) 15 rfl rfl rfl ?_
      refine s_off (b' := false) 15 rfl rfl rfl ?_
      refine s_off (b' := false) 15 rfl rfl rfl ?_
      refine s_op (o_pick_f (u := (.bool false)) rfl rfl ?_)
      refine s_op (o_move (v := (.bool false)) rfl ?_)
      refine s_off (b' := false) 21 rfl rfl rfl ?_
      refine s_off (b' := false) 21 rfl rfl rfl ?_
      refine s_off (b' := false) 21 rfl rfl rfl ?_
      refine s_off (b' := false) 21 rfl rfl rfl ?_
      refine s_op (o_pick_f (u := (.bool false)) rfl rfl ?_)
      refine s_op (o_assign (v := (.bool false)) rfl ?_)
      refine s_nil ?_
      refine t_norm (hK11 _ _ ?_)
      refine wp_ret ?_
      refine t_ret (c_ret1 Try.results176  (v := (.bool false)) rfl ?_)
      have q21 : (bodyR r) = false := by (try simp at h10); (try simp only [eqv30_dec]); rw [Bool.eq_iff_iff]; first | (simp [bodyR, h10, h10_n, h12]; done) | (simp_all [bodyR]; done)
      have hH22 : Has E w9 [R] := (hH8.front 1 rfl).first 1 rfl
      exact ⟨by rw [q21], hH22⟩
  · -- not: !(chgR r.kind)
    have h10_n : (chgR r.kind) = true := by simpa using h10
    refine wp_skip ?_
    refine t_norm (hK5 _ _ ?_)
    refine wp_seq_k fun K23 hK23 => ?_
    refine c_region ?_
    refine s_op (o_fieldAddr (k := 4) (fun _ => by kernel_rfl) rfl ?_)
    refine s_op (o_load1 (v := (.int .i64 r.page)) Try.underlying3 rfl rfl hH8 (seg_sub 0 rfl) (CellsAt.one rfl) ?_)
    refine s_op (o_callf (vs := #[(.int .i64 r.page), (.int .i64 0), (.int .i64 63)]) ca175 rfl (args3 rfl rfl rfl) (within_c (n := r.page) (lo := 0) (hi := 63) hH8.all ) ?_)
    rintro _ w26 ⟨rfl, hX24⟩
    refine ⟨_, rfl, ?_⟩
    have hH25 := hX24.of_all
    refine s_op (o_move (v := (.bool (withinR r.page 0 63))) rfl ?_)
    rcases Bool.eq_false_or_eq_true (withinR r.page 0 63) with h27 | h27
    · -- (withinR r.page 0 63)
      refine s_on 30 rfl (congrArg Value.bool h27) (o_fieldAddr (k := 5) (fun _ => by kernel_rfl) rfl ?_)
      refine s_on 30 rfl (congrArg Value.bool h27) (o_load1 (v := (S r.key)) Try.underlying9 rfl rfl hH25 (seg_sub 0 rfl) (CellsAt.one rfl) ?_)
      refine s_on 30 rfl (congrArg Value.bool h27) (o_buildSlice (ps := #[(0, (S r.key))]) (cells := #[(S r.key)]) Try.underlying53 ti9 (by decide) (parts1 rfl) (by kernel_rfl) hH25 fun b28 w29 hH30 => ?_)
      refine s_on 30 rfl (congrArg Value.bool h27) (o_callf (vs := #[(.slice (some ⟨b28, 0, none⟩) 1 1)]) ca199 rfl (args1 rfl) (key_c (l := [r.key]) hH30.all ((sl_lit (f := sV) (l := [r.key]) rfl rfl (by simp)).mono (seg_sub 0 rfl))) ?_)
      rintro _ w33 ⟨rfl, hX31⟩
      refine ⟨_, rfl, ?_⟩
      have hH32 := hX31.of_all
      refine s_op (o_pick_t (u := (.bool ([r.key].all keyR))) ((rfl : _ = _).trans (congrArg Value.bool h27)) rfl ?_)
      refine s_op (o_move (v := (.bool ([r.key].all keyR))) rfl ?_)
      rcases Bool.eq_false_or_eq_true ([r.key].all keyR) with h34 | h34
      · -- ([r.key].all keyR)
        refine s_on 36 rfl (congrArg Value.bool h34) (o_fieldAddr (k := 6) (fun _ => by kernel_rfl) rfl ?_)
        refine s_on 36 rfl (congrArg Value.bool h34) (o_loadN (cs := [(.bool r.bh), (S r.bv)]) Try.underlying30 rfl ti30 rfl hH32 (seg_sub 1 rfl) (CellsAt.one rfl) ?_)
        refine s_on 36 rfl (congrArg Value.bool h34) (o_fieldAddr (k := 8) (fun _ => by kernel_rfl) rfl ?_)
        refine s_on 36 rfl (congrArg Value.bool h34) (o_loadN (cs := [(.bool r.ah), (S r.av)]) Try.underlying30 rfl ti30 rfl hH32 (seg_sub 1 rfl) (CellsAt.one rfl) ?_)
        refine s_on 36 rfl (congrArg Value.bool h34) (o_buildSlice (ps := #[(0, (.agg #[(.bool r.bh), (S r.bv)])), (1, (.agg #[(.bool r.ah), (S r.av)]))]) (cells := #[(.bool r.bh), (S r.bv), (.bool r.ah), (S r.av)]) Try.underlying286 ti30 (by decide) (parts2 rfl rfl) (by kernel_rfl) hH32 fun b35 w36 hH37 => ?_)
        refine s_on 36 rfl (congrArg Value.bool h34) (o_callf (vs := #[(.slice (some ⟨b35, 0, none⟩) 2 2)]) ca200 rfl (args1 rfl) (value_c (l := [(r.bh, r.bv), (r.ah, r.av)]) hH37.all ((sl_litF (f := vlC) (l := [(r.bh, r.bv), (r.ah, r.av)]) vlC_len rfl rfl (by simp)).mono (seg_sub 0 rfl))) ?_)
        rintro _ w40 ⟨rfl, hX38⟩
        refine ⟨_, rfl, ?_⟩
        have hH39 := hX38.of_all
        refine s_op (o_pick_t (u := (.bool ([(r.bh, r.bv), (r.ah, r.av)].all valR))) ((rfl : _ = _).trans (congrArg Value.bool h34)) rfl ?_)
        refine s_op (o_move (v := (.bool ([(r.bh, r.bv), (r.ah, r.av)].all valR))) rfl ?_)
        rcases Bool.eq_false_or_eq_true ([(r.bh, r.bv), (r.ah, r.av)].all valR) with h41 | h41
        · -- ([(r.bh, r.bv), (r.ah, r.av)].all valR)
          refine s_on 44 rfl (congrArg Value.bool h41) (o_fieldAddr (k := 6) (fun _ => by kernel_rfl) rfl ?_)
          refine s_on 44 rfl (congrArg Value.bool h41) (o_loadN (cs := [(.bool r.bh), (S r.bv)]) Try.underlying30 rfl ti30 rfl hH39 (seg_sub 2 rfl) (CellsAt.one rfl) ?_)
          refine s_on 44 rfl (congrArg Value.bool h41) (o_fieldAddr (k := 8) (fun _ => by kernel_rfl) rfl ?_)
          refine s_on 44 rfl (congrArg Value.bool h41) (o_loadN (cs := [(.bool r.ah), (S r.av)]) Try.underlying30 rfl ti30 rfl hH39 (seg_sub 2 rfl) (CellsAt.one rfl) ?_)
          refine s_on 44 rfl (congrArg Value.bool h41) (o_neq30 r.bh r.bv r.ah r.av rfl rfl ?_)
          refine s_op (o_pick_t (u := (.bool (!(eqv30 r.bh r.bv r.ah r.av)))) ((rfl : _ = _).trans (congrArg Value.bool h41)) rfl ?_)
          refine s_op (o_assign (v := (.bool (!(eqv30 r.bh r.bv r.ah r.av)))) rfl ?_)
          refine s_nil ?_
          refine t_norm (hK23 _ _ ?_)
          refine wp_ret ?_
          refine c_ret1 Try.results176  (v := (.bool (!(eqv30 r.bh r.bv r.ah r.av)))) rfl ?_
          have q42 : (bodyR r) = !(eqv30 r.bh r.bv r.ah r.av) := by (try simp at h10); (try simp at h34); (try simp at h41); (try simp only [eqv30_dec]); rw [Bool.eq_iff_iff]; first | (simp [bodyR, h10, h10_n, h27, h34, h41]; done) | (simp_all [bodyR]; done)
          have hH43 : Has E w40 [R] := (hH39.front 3 rfl).first 1 rfl
          exact ⟨by rw [q42], hH43⟩
        · -- not: ([(r.bh, r.bv), (r.ah, r.av)].all valR)
          refine s_off (b' := false) 44 rfl (congrArg Value.bool h41) rfl ?_
          refine s_off (b' := false) 44 rfl (congrArg Value.bool h41) rfl ?_
          refine s_off (b' := false) 44 rfl (congrArg Value.bool h41) rfl ?_
          refine s_off (b' := false) 44 rfl (congrArg Value.bool h41) rfl ?_
          refine s_off (b' := false) 44 rfl (congrArg Value.bool h41) rfl ?_
          refine s_op (o_pick_f (u := (.bool false)) ((rfl : _ = _).trans (congrArg Value.bool h41)) rfl ?_)
          refine s_op (o_assign (v := (.bool false)) rfl ?_)
          refine s_nil ?_
          refine t_norm (hK23 _ _ ?_)
          refine wp_ret ?_
          refine c_ret1 Try.results176  (v := (.bool false)) rfl ?_
          have q44 : (bodyR r) = false := by (try simp at h10); (try simp at h34); (try simp at h41); (try simp only [eqv30_dec]); rw [Bool.eq_iff_iff]; first | (simp [bodyR, h10, h10_n, h27, h34, h41]; done) | (simp_all [bodyR]; done)
          have hH45 : Has E w40 [R] := (hH39.front 3 rfl).first 1 rfl
          exact ⟨by rw [q44], hH45⟩
      · -- not: ([r.key].all keyR)
        refine s_off (b' := false) 36 rfl (congrArg Value.bool h34) rfl ?_
        refine s_off (b' := false) 36 rfl (congrArg Value.bool h34) rfl ?_
        refine s_off (b' := false) 36 rfl (congrArg Value.bool h34) rfl ?_
        refine s_off (b' := false) 36 rfl (congrArg Value.bool h34) rfl ?_
        refine s_off (b' := false) 36 rfl (congrArg Value.bool h34) rfl ?_
        refine s_off (b' := false) 36 rfl (congrArg Value.bool h34) rfl ?_
        refine s_op (o_pick_f (u := (.bool false)) ((rfl : _ = _).trans (congrArg Value.bool h34)) rfl ?_)
        refine s_op (o_move (v := (.bool false)) rfl ?_)
        refine s_off (b' := false) 44 rfl rfl rfl ?_
        refine s_off (b' := false) 44 rfl rfl rfl ?_
        refine s_off (b' := false) 44 rfl rfl rfl ?_
        refine s_off (b' := false) 44 rfl rfl rfl ?_
        refine s_off (b' := false) 44 rfl rfl rfl ?_
        refine s_op (o_pick_f (u := (.bool false)) rfl rfl ?_)
        refine s_op (o_assign (v := (.bool false)) rfl ?_)
        refine s_nil ?_
        refine t_norm (hK23 _ _ ?_)
        refine wp_ret ?_
        refine c_ret1 Try.results176  (v := (.bool false)) rfl ?_
        have q46 : (bodyR r) = false := by (try simp at h10); (try simp at h34); (try simp only [eqv30_dec]); rw [Bool.eq_iff_iff]; first | (simp [bodyR, h10, h10_n, h27, h34]; done) | (simp_all [bodyR]; done)
        have hH47 : Has E w33 [R] := (hH32.front 2 rfl).first 1 rfl
        exact ⟨by rw [q46], hH47⟩
    · -- not: (withinR r.page 0 63)
      refine s_off (b' := false) 30 rfl (congrArg Value.bool h27) rfl ?_
      refine s_off (b' := false) 30 rfl (congrArg Value.bool h27) rfl ?_
      refine s_off (b' := false) 30 rfl (congrArg Value.bool h27) rfl ?_
      refine s_off (b' := false) 30 rfl (congrArg Value.bool h27) rfl ?_
      refine s_op (o_pick_f (u := (.bool false)) ((rfl : _ = _).trans (congrArg Value.bool h27)) rfl ?_)
      refine s_op (o_move (v := (.bool false)) rfl ?_)
      refine s_off (b' := false) 36 rfl rfl rfl ?_
      refine s_off (b' := false) 36 rfl rfl rfl ?_
      refine s_off (b' := false) 36 rfl rfl rfl ?_
      refine s_off (b' := false) 36 rfl rfl rfl ?_
      refine s_off (b' := false) 36 rfl rfl rfl ?_
      refine s_off (b' := false) 36 rfl rfl rfl ?_
      refine s_op (o_pick_f (u := (.bool false)) rfl rfl ?_)
      refine s_op (o_move (v := (.bool false)) rfl ?_)
      refine s_off (b' := false) 44 rfl rfl rfl ?_
      refine s_off (b' := false) 44 rfl rfl rfl ?_
      refine s_off (b' := false) 44 rfl rfl rfl ?_
      refine s_off (b' := false) 44 rfl rfl rfl ?_
      refine s_off (b' := false) 44 rfl rfl rfl ?_
      refine s_op (o_pick_f (u := (.bool false)) rfl rfl ?_)
      refine s_op (o_assign (v := (.bool false)) rfl ?_)
      refine s_nil ?_
      refine t_norm (hK23 _ _ ?_)
      refine wp_ret ?_
      refine c_ret1 Try.results176  (v := (.bool false)) rfl ?_
      have q48 : (bodyR r) = false := by (try simp at h10); (try simp only [eqv30_dec]); rw [Bool.eq_iff_iff]; first | (simp [bodyR, h10, h10_n, h27]; done) | (simp_all [bodyR]; done)
      have hH49 : Has E w26 [R] := (hH25.front 1 rfl).first 1 rfl
      exact ⟨by rw [q48], hH49⟩
set_option maxHeartbeats 4000000 in
theorem undo_c {E w : World} {R : List Hp} {r : Rec}  (hH : Has E w [R]) :
    Calls Try.prog 177 #[(.agg #[(.int .i64 r.kind), (.int .i64 r.gsn), (.int .i64 r.txn), (.int .i64 r.prev), (.int .i64 r.page), (S r.key), (.bool r.bh), (S r.bv), (.bool r.ah), (S r.av), (.int .i64 r.undo)])] w fun e w' => e = .returned (.bool (undoR r)) ∧ Has E w' [R] := by
  refine c_enter (args := [(.agg #[(.int .i64 r.kind), (.int .i64 r.gsn), (.int .i64 r.txn), (.int .i64 r.prev), (.int .i64 r.page), (S r.key), (.bool r.bh), (S r.bv), (.bool r.ah), (S r.av), (.int .i64 r.undo)])]) Try.func177 rfl Try.ntmps177 (by simp) ?_
  refine wp_seq_k fun K1 hK1 => ?_
  refine c_region ?_
  refine s_op (o_box (cs := #[(.int .i64 r.kind), (.int .i64 r.gsn), (.int .i64 r.txn), (.int .i64 r.prev), (.int .i64 r.page), (S r.key), (.bool r.bh), (S r.bv), (.bool r.ah), (S r.av), (.int .i64 r.undo)]) rfl rfl hH fun b2 w3 hH4 => ?_)
  refine s_op (o_assign (v := (.bool false)) rfl ?_)
  refine s_nil ?_
  refine t_norm (hK1 _ _ ?_)
  refine wp_seq_k fun K5 hK5 => ?_
  refine wp_seq_k fun K6 hK6 => ?_
  refine c_region ?_
  refine s_op (o_fieldAddr (k := 0) (fun _ => by kernel_rfl) rfl ?_)
  refine s_op (o_load1 (v := (.int .i64 r.kind)) Try.underlying3 rfl rfl hH4 (seg_sub 0 rfl) (CellsAt.one rfl) ?_)
  refine s_nil ?_
  refine t_norm (hK6 _ _ ?_)
  refine wp_block ?_
  refine wp_seq_k fun K7 hK7 => ?_
  refine c_region ?_
  refine s_op (o_eql (a := r.kind) (b := 3) rfl rfl ?_)
  refine s_op (o_assign (v := (.bool (decide (r.kind = 3)))) rfl ?_)
  refine s_nil ?_
  refine t_norm (hK7 _ _ ?_)
  refine c_cond rfl (fun h8 => ?_) (fun h8 => ?_)
  · -- r.kind = 3
    refine wp_seq_k fun K9 hK9 => ?_
    refine c_region ?_
    refine s_op (o_fieldAddr (k := 10) (fun _ => by kernel_rfl) rfl ?_)
    refine s_op (o_load1 (v := (.int .i64 r.undo)) Try.underlying3 rfl rfl hH4 (seg_sub 0 rfl) (CellsAt.one rfl) ?_)
    refine s_op (o_fieldAddr (k := 3) (fun _ => by kernel_rfl) rfl ?_)
    refine s_op (o_load1 (v := (.int .i64 r.prev)) Try.underlying3 rfl rfl hH4 (seg_sub 0 rfl) (CellsAt.one rfl) ?_)
    refine s_op (o_callf (vs := #[(.int .i64 r.undo), (.int .i64 1), (.int .i64 r.prev)]) ca175 rfl (args3 rfl rfl rfl) (within_c (n := r.undo) (lo := 1) (hi := r.prev) hH4.all ) ?_)
    rintro _ w12 ⟨rfl, hX10⟩
    refine ⟨_, rfl, ?_⟩
    have hH11 := hX10.of_all
    refine s_op (o_assign (v := (.bool (withinR r.undo 1 r.prev))) rfl ?_)
    refine s_nil ?_
    refine t_norm (hK9 _ _ ?_)
    refine wp_ret ?_
    refine b_ret (t_ret (c_ret1 Try.results177  (v := (.bool (withinR r.undo 1 r.prev))) rfl ?_))
    have q13 : (undoR r) = (withinR r.undo 1 r.prev) := by rw [Bool.eq_iff_iff]; first | (simp [undoR, h8]; done) | (simp_all [undoR]; done)
    have hH14 : Has E w12 [R] := (hH11.front 1 rfl).first 1 rfl
    exact ⟨by rw [q13], hH14⟩
  · -- not: r.kind = 3
    refine wp_seq_k fun K15 hK15 => ?_
    refine c_region ?_
    refine s_op (o_eql (a := r.kind) (b := 4) rfl rfl ?_)
    refine s_op (o_assign (v := (.bool (decide (r.kind = 4)))) rfl ?_)
    refine s_nil ?_
    refine t_norm (hK15 _ _ ?_)
    refine c_cond rfl (fun h16 => ?_) (fun h16 => ?_)
    · -- r.kind = 4
      refine wp_seq_k fun K17 hK17 => ?_
      refine c_region ?_
      refine s_op (o_fieldAddr (k := 10) (fun _ => by kernel_rfl) rfl ?_)
      refine s_op (o_load1 (v := (.int .i64 r.undo)) Try.underlying3 rfl rfl hH4 (seg_sub 0 rfl) (CellsAt.one rfl) ?_)
      refine s_op (o_callf (vs := #[(.int .i64 r.undo), (.int .i64 0), (.int .i64 255)]) ca175 rfl (args3 rfl rfl rfl) (within_c (n := r.undo) (lo := 0) (hi := 255) hH4.all ) ?_)
      rintro _ w20 ⟨rfl, hX18⟩
      refine ⟨_, rfl, ?_⟩
      have hH19 := hX18.of_all
      refine s_op (o_assign (v := (.bool (withinR r.undo 0 255))) rfl ?_)
      refine s_nil ?_
      refine t_norm (hK17 _ _ ?_)
      refine wp_ret ?_
      refine b_ret (t_ret (c_ret1 Try.results177  (v := (.bool (withinR r.undo 0 255))) rfl ?_))
      have q21 : (undoR r) = (withinR r.undo 0 255) := by rw [Bool.eq_iff_iff]; first | (simp [undoR, h8, h16]; done) | (simp_all [undoR]; done)
      have hH22 : Has E w20 [R] := (hH19.front 1 rfl).first 1 rfl
      exact ⟨by rw [q21], hH22⟩
    · -- not: r.kind = 4
      refine wp_skip ?_
      refine b_norm ?_
      refine t_norm (hK5 _ _ ?_)
      refine wp_seq_k fun K23 hK23 => ?_
      refine c_region ?_
      refine s_op (o_fieldAddr (k := 10) (fun _ => by kernel_rfl) rfl ?_)
      refine s_op (o_load1 (v := (.int .i64 r.undo)) Try.underlying3 rfl rfl hH4 (seg_sub 0 rfl) (CellsAt.one rfl) ?_)
      refine s_op (o_eql (a := r.undo) (b := 0) rfl rfl ?_)
      refine s_op (o_assign (v := (.bool (decide (r.undo = 0)))) rfl ?_)
      refine s_nil ?_
      refine t_norm (hK23 _ _ ?_)
      refine wp_ret ?_
      refine c_ret1 Try.results177  (v := (.bool (decide (r.undo = 0)))) rfl ?_
      have q24 : (undoR r) = decide (r.undo = 0) := by rw [Bool.eq_iff_iff]; first | (simp [undoR, h8, h16]; done) | (simp_all [undoR]; done)
      have hH25 : Has E w3 [R] := (hH4.front 1 rfl).first 1 rfl
      exact ⟨by rw [q24], hH25⟩
set_option maxHeartbeats 4000000 in
theorem right_c {E w : World} {R : List Hp} {r : Rec}  (hH : Has E w [R]) :
    Calls Try.prog 150 #[(.agg #[(.int .i64 r.kind), (.int .i64 r.gsn), (.int .i64 r.txn), (.int .i64 r.prev), (.int .i64 r.page), (S r.key), (.bool r.bh), (S r.bv), (.bool r.ah), (S r.av), (.int .i64 r.undo)])] w fun e w' => e = .returned (.bool (rightR r)) ∧ Has E w' [R] := by
  refine c_enter (args := [(.agg #[(.int .i64 r.kind), (.int .i64 r.gsn), (.int .i64 r.txn), (.int .i64 r.prev), (.int .i64 r.page), (S r.key), (.bool r.bh), (S r.bv), (.bool r.ah), (S r.av), (.int .i64 r.undo)])]) Try.func150 rfl Try.ntmps150 (by simp) ?_
  refine wp_seq_k fun K1 hK1 => ?_
  refine c_region ?_
  refine s_op (o_box (cs := #[(.int .i64 r.kind), (.int .i64 r.gsn), (.int .i64 r.txn), (.int .i64 r.prev), (.int .i64 r.page), (S r.key), (.bool r.bh), (S r.bv), (.bool r.ah), (S r.av), (.int .i64 r.undo)]) rfl rfl hH fun b2 w3 hH4 => ?_)
  refine s_op (o_assign (v := (.bool false)) rfl ?_)
  refine s_nil ?_
  refine t_norm (hK1 _ _ ?_)
  refine wp_seq_k fun K5 hK5 => ?_
  refine c_region ?_
  refine s_op (o_fieldAddr (k := 0) (fun _ => by kernel_rfl) rfl ?_)
  refine s_op (o_load1 (v := (.int .i64 r.kind)) Try.underlying3 rfl rfl hH4 (seg_sub 0 rfl) (CellsAt.one rfl) ?_)
  refine s_op (o_callf (vs := #[(.int .i64 r.kind), (.int .i64 1), (.int .i64 6)]) ca175 rfl (args3 rfl rfl rfl) (within_c (n := r.kind) (lo := 1) (hi := 6) hH4.all ) ?_)
  rintro _ w8 ⟨rfl, hX6⟩
  refine ⟨_, rfl, ?_⟩
  have hH7 := hX6.of_all
  refine s_op (o_move (v := (.bool (withinR r.kind 1 6))) rfl ?_)
  rcases Bool.eq_false_or_eq_true (withinR r.kind 1 6) with h9 | h9
  · -- (withinR r.kind 1 6)
    refine s_on 6 rfl (congrArg Value.bool h9) (o_fieldAddr (k := 2) (fun _ => by kernel_rfl) rfl ?_)
    refine s_on 6 rfl (congrArg Value.bool h9) (o_load1 (v := (.int .i64 r.txn)) Try.underlying3 rfl rfl hH7 (seg_sub 0 rfl) (CellsAt.one rfl) ?_)
    refine s_on 6 rfl (congrArg Value.bool h9) (o_callf (vs := #[(.int .i64 r.txn), (.int .i64 1), (.int .i64 2147483647)]) ca175 rfl (args3 rfl rfl rfl) (within_c (n := r.txn) (lo := 1) (hi := 2147483647) hH7.all ) ?_)
    rintro _ w12 ⟨rfl, hX10⟩
    refine ⟨_, rfl, ?_⟩
    have hH11 := hX10.of_all
    refine s_op (o_pick_t (u := (.bool (withinR r.txn 1 2147483647))) ((rfl : _ = _).trans (congrArg Value.bool h9)) rfl ?_)
    refine s_op (o_move (v := (.bool (withinR r.txn 1 2147483647))) rfl ?_)
    rcases Bool.eq_false_or_eq_true (withinR r.txn 1 2147483647) with h13 | h13
    · -- (withinR r.txn 1 2147483647)
      refine s_on 11 rfl (congrArg Value.bool h13) (o_fieldAddr (k := 1) (fun _ => by kernel_rfl) rfl ?_)
      refine s_on 11 rfl (congrArg Value.bool h13) (o_load1 (v := (.int .i64 r.gsn)) Try.underlying3 rfl rfl hH11 (seg_sub 0 rfl) (CellsAt.one rfl) ?_)
      refine s_on 11 rfl (congrArg Value.bool h13) (o_callf (vs := #[(.int .i64 r.gsn), (.int .i64 1), (.int .i64 4611686018427387903)]) ca175 rfl (args3 rfl rfl rfl) (within_c (n := r.gsn) (lo := 1) (hi := 4611686018427387903) hH11.all ) ?_)
      rintro _ w16 ⟨rfl, hX14⟩
      refine ⟨_, rfl, ?_⟩
      have hH15 := hX14.of_all
      refine s_op (o_pick_t (u := (.bool (withinR r.gsn 1 4611686018427387903))) ((rfl : _ = _).trans (congrArg Value.bool h13)) rfl ?_)
      refine s_op (o_move (v := (.bool (withinR r.gsn 1 4611686018427387903))) rfl ?_)
      rcases Bool.eq_false_or_eq_true (withinR r.gsn 1 4611686018427387903) with h17 | h17
      · -- (withinR r.gsn 1 4611686018427387903)
        obtain ⟨hg1_, hg2_⟩ : 1 ≤ r.gsn ∧ r.gsn ≤ 4611686018427387903 := by simpa [withinR] using h17
        refine s_on 16 rfl (congrArg Value.bool h17) (o_fieldAddr (k := 3) (fun _ => by kernel_rfl) rfl ?_)
        refine s_on 16 rfl (congrArg Value.bool h17) (o_load1 (v := (.int .i64 r.prev)) Try.underlying3 rfl rfl hH15 (seg_sub 0 rfl) (CellsAt.one rfl) ?_)
        refine s_on 16 rfl (congrArg Value.bool h17) (o_fieldAddr (k := 1) (fun _ => by kernel_rfl) rfl ?_)
        refine s_on 16 rfl (congrArg Value.bool h17) (o_load1 (v := (.int .i64 r.gsn)) Try.underlying3 rfl rfl hH15 (seg_sub 0 rfl) (CellsAt.one rfl) ?_)
        refine s_on 16 rfl (congrArg Value.bool h17) (o_sub (a := r.gsn) (b := 1) rfl rfl (w64 (by omega) (by omega)) ?_)
        refine s_on 16 rfl (congrArg Value.bool h17) (o_callf (vs := #[(.int .i64 r.prev), (.int .i64 0), (.int .i64 (r.gsn - 1))]) ca175 rfl (args3 rfl rfl rfl) (within_c (n := r.prev) (lo := 0) (hi := r.gsn - 1) hH15.all ) ?_)
        rintro _ w20 ⟨rfl, hX18⟩
        refine ⟨_, rfl, ?_⟩
        have hH19 := hX18.of_all
        refine s_op (o_pick_t (u := (.bool (withinR r.prev 0 (r.gsn - 1)))) ((rfl : _ = _).trans (congrArg Value.bool h17)) rfl ?_)
        refine s_op (o_move (v := (.bool (withinR r.prev 0 (r.gsn - 1)))) rfl ?_)
        rcases Bool.eq_false_or_eq_true (withinR r.prev 0 (r.gsn - 1)) with h21 | h21
        · -- (withinR r.prev 0 (r.gsn - 1))
          refine s_on 24 rfl (congrArg Value.bool h21) (o_fieldAddr (k := 3) (fun _ => by kernel_rfl) rfl ?_)
          refine s_on 24 rfl (congrArg Value.bool h21) (o_load1 (v := (.int .i64 r.prev)) Try.underlying3 rfl rfl hH19 (seg_sub 0 rfl) (CellsAt.one rfl) ?_)
          refine s_on 24 rfl (congrArg Value.bool h21) (o_eql (a := r.prev) (b := 0) rfl rfl ?_)
          refine s_on 24 rfl (congrArg Value.bool h21) (o_fieldAddr (k := 0) (fun _ => by kernel_rfl) rfl ?_)
          refine s_on 24 rfl (congrArg Value.bool h21) (o_load1 (v := (.int .i64 r.kind)) Try.underlying3 rfl rfl hH19 (seg_sub 0 rfl) (CellsAt.one rfl) ?_)
          refine s_on 24 rfl (congrArg Value.bool h21) (o_eql (a := r.kind) (b := 1) rfl rfl ?_)
          refine s_on 24 rfl (congrArg Value.bool h21) (o_eqlb Try.underlying4 rfl rfl ?_)
          refine s_op (o_pick_t (u := (.bool ((decide (r.prev = 0)) == (decide (r.kind = 1))))) ((rfl : _ = _).trans (congrArg Value.bool h21)) rfl ?_)
          refine s_op (o_move (v := (.bool ((decide (r.prev = 0)) == (decide (r.kind = 1))))) rfl ?_)
          rcases Bool.eq_false_or_eq_true ((decide (r.prev = 0)) == (decide (r.kind = 1))) with h22 | h22
          · -- (decide (r.prev = 0)) == (decide (r.kind = 1))
            refine s_on 33 rfl (congrArg Value.bool h22) (o_loadN (cs := [(.int .i64 r.kind), (.int .i64 r.gsn), (.int .i64 r.txn), (.int .i64 r.prev), (.int .i64 r.page), (S r.key), (.bool r.bh), (S r.bv), (.bool r.ah), (S r.av), (.int .i64 r.undo)]) Try.underlying32 rfl ti32 rfl hH19 (seg_sub 0 rfl) (CellsAt.one rfl) ?_)
            refine s_on 33 rfl (congrArg Value.bool h22) (o_callf (vs := #[(.agg #[(.int .i64 r.kind), (.int .i64 r.gsn), (.int .i64 r.txn), (.int .i64 r.prev), (.int .i64 r.page), (S r.key), (.bool r.bh), (S r.bv), (.bool r.ah), (S r.av), (.int .i64 r.undo)])]) ca176 rfl (args1 rfl) (body_c (r := r) hH19.all ) ?_)
            rintro _ w25 ⟨rfl, hX23⟩
            refine ⟨_, rfl, ?_⟩
            have hH24 := hX23.of_all
            refine s_op (o_pick_t (u := (.bool (bodyR r))) ((rfl : _ = _).trans (congrArg Value.bool h22)) rfl ?_)
            refine s_op (o_move (v := (.bool (bodyR r))) rfl ?_)
            rcases Bool.eq_false_or_eq_true (bodyR r) with h26 | h26
            · -- (bodyR r)
              refine s_on 37 rfl (congrArg Value.bool h26) (o_loadN (cs := [(.int .i64 r.kind), (.int .i64 r.gsn), (.int .i64 r.txn), (.int .i64 r.prev), (.int .i64 r.page), (S r.key), (.bool r.bh), (S r.bv), (.bool r.ah), (S r.av), (.int .i64 r.undo)]) Try.underlying32 rfl ti32 rfl hH24 (seg_sub 0 rfl) (CellsAt.one rfl) ?_)
              refine s_on 37 rfl (congrArg Value.bool h26) (o_callf (vs := #[(.agg #[(.int .i64 r.kind), (.int .i64 r.gsn), (.int .i64 r.txn), (.int .i64 r.prev), (.int .i64 r.page), (S r.key), (.bool r.bh), (S r.bv), (.bool r.ah), (S r.av), (.int .i64 r.undo)])]) ca177 rfl (args1 rfl) (undo_c (r := r) hH24.all ) ?_)
              rintro _ w29 ⟨rfl, hX27⟩
              refine ⟨_, rfl, ?_⟩
              have hH28 := hX27.of_all
              refine s_op (o_pick_t (u := (.bool (undoR r))) ((rfl : _ = _).trans (congrArg Value.bool h26)) rfl ?_)
              refine s_op (o_assign (v := (.bool (undoR r))) rfl ?_)
              refine s_nil ?_
              refine t_norm (hK5 _ _ ?_)
              refine wp_ret ?_
              refine c_ret1 Try.results150  (v := (.bool (undoR r))) rfl ?_
              have q30 : (rightR r) = (undoR r) := by rw [Bool.eq_iff_iff]; first | (simp [rightR, h9, h13, h17, h21, h22, h26]; done) | (simp_all [rightR]; done)
              have hH31 : Has E w29 [R] := (hH28.front 1 rfl).first 1 rfl
              exact ⟨by rw [q30], hH31⟩
            · -- not: (bodyR r)
              refine s_off (b' := false) 37 rfl (congrArg Value.bool h26) rfl ?_
              refine s_off (b' := false) 37 rfl (congrArg Value.bool h26) rfl ?_
              refine s_op (o_pick_f (u := (.bool false)) ((rfl : _ = _).trans (congrArg Value.bool h26)) rfl ?_)
              refine s_op (o_assign (v := (.bool false)) rfl ?_)
              refine s_nil ?_
              refine t_norm (hK5 _ _ ?_)
              refine wp_ret ?_
              refine c_ret1 Try.results150  (v := (.bool false)) rfl ?_
              have q32 : (rightR r) = false := by rw [Bool.eq_iff_iff]; first | (simp [rightR, h9, h13, h17, h21, h22, h26]; done) | (simp_all [rightR]; done)
              have hH33 : Has E w25 [R] := (hH24.front 1 rfl).first 1 rfl
              exact ⟨by rw [q32], hH33⟩
          · -- not: (decide (r.prev = 0)) == (decide (r.kind = 1))
            refine s_off (b' := false) 33 rfl (congrArg Value.bool h22) rfl ?_
            refine s_off (b' := false) 33 rfl (congrArg Value.bool h22) rfl ?_
            refine s_op (o_pick_f (u := (.bool false)) ((rfl : _ = _).trans (congrArg Value.bool h22)) rfl ?_)
            refine s_op (o_move (v := (.bool false)) rfl ?_)
            refine s_off (b' := false) 37 rfl rfl rfl ?_
            refine s_off (b' := false) 37 rfl rfl rfl ?_
            refine s_op (o_pick_f (u := (.bool false)) rfl rfl ?_)
            refine s_op (o_assign (v := (.bool false)) rfl ?_)
            refine s_nil ?_
            refine t_norm (hK5 _ _ ?_)
            refine wp_ret ?_
            refine c_ret1 Try.results150  (v := (.bool false)) rfl ?_
            have q34 : (rightR r) = false := by rw [Bool.eq_iff_iff]; first | (simp [rightR, h9, h13, h17, h21, h22]; done) | (simp_all [rightR]; done)
            have hH35 : Has E w20 [R] := (hH19.front 1 rfl).first 1 rfl
            exact ⟨by rw [q34], hH35⟩
        · -- not: (withinR r.prev 0 (r.gsn - 1))
          refine s_off (b' := false) 24 rfl (congrArg Value.bool h21) rfl ?_
          refine s_off (b' := false) 24 rfl (congrArg Value.bool h21) rfl ?_
          refine s_off (b' := false) 24 rfl (congrArg Value.bool h21) rfl ?_
          refine s_off (b' := false) 24 rfl (congrArg Value.bool h21) rfl ?_
          refine s_off (b' := false) 24 rfl (congrArg Value.bool h21) rfl ?_
          refine s_off (b' := false) 24 rfl (congrArg Value.bool h21) rfl ?_
          refine s_off (b' := false) 24 rfl (congrArg Value.bool h21) rfl ?_
          refine s_op (o_pick_f (u := (.bool false)) ((rfl : _ = _).trans (congrArg Value.bool h21)) rfl ?_)
          refine s_op (o_move (v := (.bool false)) rfl ?_)
          refine s_off (b' := false) 33 rfl rfl rfl ?_
          refine s_off (b' := false) 33 rfl rfl rfl ?_
          refine s_op (o_pick_f (u := (.bool false)) rfl rfl ?_)
          refine s_op (o_move (v := (.bool false)) rfl ?_)
          refine s_off (b' := false) 37 rfl rfl rfl ?_
          refine s_off (b' := false) 37 rfl rfl rfl ?_
          refine s_op (o_pick_f (u := (.bool false)) rfl rfl ?_)
          refine s_op (o_assign (v := (.bool false)) rfl ?_)
          refine s_nil ?_
          refine t_norm (hK5 _ _ ?_)
          refine wp_ret ?_
          refine c_ret1 Try.results150  (v := (.bool false)) rfl ?_
          have q36 : (rightR r) = false := by rw [Bool.eq_iff_iff]; first | (simp [rightR, h9, h13, h17, h21]; done) | (simp_all [rightR]; done)
          have hH37 : Has E w20 [R] := (hH19.front 1 rfl).first 1 rfl
          exact ⟨by rw [q36], hH37⟩
      · -- not: (withinR r.gsn 1 4611686018427387903)
        refine s_off (b' := false) 16 rfl (congrArg Value.bool h17) rfl ?_
        refine s_off (b' := false) 16 rfl (congrArg Value.bool h17) rfl ?_
        refine s_off (b' := false) 16 rfl (congrArg Value.bool h17) rfl ?_
        refine s_off (b' := false) 16 rfl (congrArg Value.bool h17) rfl ?_
        refine s_off (b' := false) 16 rfl (congrArg Value.bool h17) rfl ?_
        refine s_off (b' := false) 16 rfl (congrArg Value.bool h17) rfl ?_
        refine s_op (o_pick_f (u := (.bool false)) ((rfl : _ = _).trans (congrArg Value.bool h17)) rfl ?_)
        refine s_op (o_move (v := (.bool false)) rfl ?_)
        refine s_off (b' := false) 24 rfl rfl rfl ?_
        refine s_off (b' := false) 24 rfl rfl rfl ?_
        refine s_off (b' := false) 24 rfl rfl rfl ?_
        refine s_off (b' := false) 24 rfl rfl rfl ?_
        refine s_off (b' := false) 24 rfl rfl rfl ?_
        refine s_off (b' := false) 24 rfl rfl rfl ?_
        refine s_off (b' := false) 24 rfl rfl rfl ?_
        refine s_op (o_pick_f (u := (.bool false)) rfl rfl ?_)
        refine s_op (o_move (v := (.bool false)) rfl ?_)
        refine s_off (b' := false) 33 rfl rfl rfl ?_
        refine s_off (b' := false) 33 rfl rfl rfl ?_
        refine s_op (o_pick_f (u := (.bool false)) rfl rfl ?_)
        refine s_op (o_move (v := (.bool false)) rfl ?_)
        refine s_off (b' := false) 37 rfl rfl rfl ?_
        refine s_off (b' := false) 37 rfl rfl rfl ?_
        refine s_op (o_pick_f (u := (.bool false)) rfl rfl ?_)
        refine s_op (o_assign (v := (.bool false)) rfl ?_)
        refine s_nil ?_
        refine t_norm (hK5 _ _ ?_)
        refine wp_ret ?_
        refine c_ret1 Try.results150  (v := (.bool false)) rfl ?_
        have q38 : (rightR r) = false := by rw [Bool.eq_iff_iff]; first | (simp [rightR, h9, h13, h17]; done) | (simp_all [rightR]; done)
        have hH39 : Has E w16 [R] := (hH15.front 1 rfl).first 1 rfl
        exact ⟨by rw [q38], hH39⟩
    · -- not: (withinR r.txn 1 2147483647)
      refine s_off (b' := false) 11 rfl (congrArg Value.bool h13) rfl ?_
      refine s_off (b' := false) 11 rfl (congrArg Value.bool h13) rfl ?_
      refine s_off (b' := false) 11 rfl (congrArg Value.bool h13) rfl ?_
      refine s_op (o_pick_f (u := (.bool false)) ((rfl : _ = _).trans (congrArg Value.bool h13)) rfl ?_)
      refine s_op (o_move (v := (.bool false)) rfl ?_)
      refine s_off (b' := false) 16 rfl rfl rfl ?_
      refine s_off (b' := false) 16 rfl rfl rfl ?_
      refine s_off (b' := false) 16 rfl rfl rfl ?_
      refine s_off (b' := false) 16 rfl rfl rfl ?_
      refine s_off (b' := false) 16 rfl rfl rfl ?_
      refine s_off (b' := false) 16 rfl rfl rfl ?_
      refine s_op (o_pick_f (u := (.bool false)) rfl rfl ?_)
      refine s_op (o_move (v := (.bool false)) rfl ?_)
      refine s_off (b' := false) 24 rfl rfl rfl ?_
      refine s_off (b' := false) 24 rfl rfl rfl ?_
      refine s_off (b' := false) 24 rfl rfl rfl ?_
      refine s_off (b' := false) 24 rfl rfl rfl ?_
      refine s_off (b' := false) 24 rfl rfl rfl ?_
      refine s_off (b' := false) 24 rfl rfl rfl ?_
      refine s_off (b' := false) 24 rfl rfl rfl ?_
      refine s_op (o_pick_f (u := (.bool false)) rfl rfl ?_)
      refine s_op (o_move (v := (.bool false)) rfl ?_)
      refine s_off (b' := false) 33 rfl rfl rfl ?_
      refine s_off (b' := false) 33 rfl rfl rfl ?_
      refine s_op (o_pick_f (u := (.bool false)) rfl rfl ?_)
      refine s_op (o_move (v := (.bool false)) rfl ?_)
      refine s_off (b' := false) 37 rfl rfl rfl ?_
      refine s_off (b' := false) 37 rfl rfl rfl ?_
      refine s_op (o_pick_f (u := (.bool false)) rfl rfl ?_)
      refine s_op (o_assign (v := (.bool false)) rfl ?_)
      refine s_nil ?_
      refine t_norm (hK5 _ _ ?_)
      refine wp_ret ?_
      refine c_ret1 Try.results150  (v := (.bool false)) rfl ?_
      have q40 : (rightR r) = false := by rw [Bool.eq_iff_iff]; first | (simp [rightR, h9, h13]; done) | (simp_all [rightR]; done)
      have hH41 : Has E w12 [R] := (hH11.front 1 rfl).first 1 rfl
      exact ⟨by rw [q40], hH41⟩
  · -- not: (withinR r.kind 1 6)
    refine s_off (b' := false) 6 rfl (congrArg Value.bool h9) rfl ?_
    refine s_off (b' := false) 6 rfl (congrArg Value.bool h9) rfl ?_
    refine s_off (b' := false) 6 rfl (congrArg Value.bool h9) rfl ?_
    refine s_op (o_pick_f (u := (.bool false)) ((rfl : _ = _).trans (congrArg Value.bool h9)) rfl ?_)
    refine s_op (o_move (v := (.bool false)) rfl ?_)
    refine s_off (b' := false) 11 rfl rfl rfl ?_
    refine s_off (b' := false) 11 rfl rfl rfl ?_
    refine s_off (b' := false) 11 rfl rfl rfl ?_
    refine s_op (o_pick_f (u := (.bool false)) rfl rfl ?_)
    refine s_op (o_move (v := (.bool false)) rfl ?_)
    refine s_off (b' := false) 16 rfl rfl rfl ?_
    refine s_off (b' := false) 16 rfl rfl rfl ?_
    refine s_off (b' := false) 16 rfl rfl rfl ?_
    refine s_off (b' := false) 16 rfl rfl rfl ?_
    refine s_off (b' := false) 16 rfl rfl rfl ?_
    refine s_off (b' := false) 16 rfl rfl rfl ?_
    refine s_op (o_pick_f (u := (.bool false)) rfl rfl ?_)
    refine s_op (o_move (v := (.bool false)) rfl ?_)
    refine s_off (b' := false) 24 rfl rfl rfl ?_
    refine s_off (b' := false) 24 rfl rfl rfl ?_
    refine s_off (b' := false) 24 rfl rfl rfl ?_
    refine s_off (b' := false) 24 rfl rfl rfl ?_
    refine s_off (b' := false) 24 rfl rfl rfl ?_
    refine s_off (b' := false) 24 rfl rfl rfl ?_
    refine s_off (b' := false) 24 rfl rfl rfl ?_
    refine s_op (o_pick_f (u := (.bool false)) rfl rfl ?_)
    refine s_op (o_move (v := (.bool false)) rfl ?_)
    refine s_off (b' := false) 33 rfl rfl rfl ?_
    refine s_off (b' := false) 33 rfl rfl rfl ?_
    refine s_op (o_pick_f (u := (.bool false)) rfl rfl ?_)
    refine s_op (o_move (v := (.bool false)) rfl ?_)
    refine s_off (b' := false) 37 rfl rfl rfl ?_
    refine s_off (b' := false) 37 rfl rfl rfl ?_
    refine s_op (o_pick_f (u := (.bool false)) rfl rfl ?_)
    refine s_op (o_assign (v := (.bool false)) rfl ?_)
    refine s_nil ?_
    refine t_norm (hK5 _ _ ?_)
    refine wp_ret ?_
    refine c_ret1 Try.results150  (v := (.bool false)) rfl ?_
    have q42 : (rightR r) = false := by rw [Bool.eq_iff_iff]; first | (simp [rightR, h9]; done) | (simp_all [rightR]; done)
    have hH43 : Has E w8 [R] := (hH7.front 1 rfl).first 1 rfl
    exact ⟨by rw [q42], hH43⟩
set_option maxHeartbeats 4000000 in
theorem rights_c {E w : World} {R : List Hp} {v_l : Value} {l : List Rec}  (hH : Has E w [R]) (h_l : Sl R 11 v_l l.length (l.flatMap recC)) :
    Calls Try.prog 114 #[v_l] w fun e w' => e = .returned (.bool (l.all rightR)) ∧ Has E w' [R] := by
  refine c_enter (args := [v_l]) Try.func114 rfl Try.ntmps114 (by simp) ?_
  refine wp_seq_k fun K1 hK1 => ?_
  refine c_region ?_
  refine s_op (o_assign (v := (.bool false)) rfl ?_)
  refine s_nil ?_
  refine t_norm (hK1 _ _ ?_)
  refine wp_seq_k fun K2 hK2 => ?_
  refine c_region ?_
  refine s_op (o_move (v := v_l) rfl ?_)
  refine s_op (o_callf (vs := #[v_l, (.func (.func 150) #[] #[])]) ca149 rfl (args2 rfl rfl) (allr_c (l := l) (c := rightR) (va := fun v_ => #[v_]) hH.all (h_l.mono (seg_sub 0 rfl)) ca150 (fun _ => by simp) (fun F_ x_ h_ => Calls.frameF (right_c (r := x_) h_.all))) ?_)
  rintro _ w5 ⟨rfl, hX3⟩
  refine ⟨_, rfl, ?_⟩
  have hH4 := hX3.of_all
  refine s_op (o_assign (v := (.bool (l.all rightR))) rfl ?_)
  refine s_nil ?_
  refine t_norm (hK2 _ _ ?_)
  refine wp_ret ?_
  refine c_ret1 Try.results114  (v := (.bool (l.all rightR))) rfl ?_
  exact ⟨rfl, hH4⟩
set_option maxHeartbeats 4000000 in
theorem back_c {E w : World} {R : List Hp} {r : Rec} {g : Int} {p : Int}  (hH : Has E w [R]) :
    Calls Try.prog 178 #[(.agg #[(.int .i64 r.kind), (.int .i64 r.gsn), (.int .i64 r.txn), (.int .i64 r.prev), (.int .i64 r.page), (S r.key), (.bool r.bh), (S r.bv), (.bool r.ah), (S r.av), (.int .i64 r.undo)]), (.int .i64 g), (.int .i64 p)] w fun e w' => e = .returned (.agg #[(.int .i64 ((backR r g p).kind)), (.int .i64 ((backR r g p).gsn)), (.int .i64 ((backR r g p).txn)), (.int .i64 ((backR r g p).prev)), (.int .i64 ((backR r g p).page)), (S ((backR r g p).key)), (.bool ((backR r g p).bh)), (S ((backR r g p).bv)), (.bool ((backR r g p).ah)), (S ((backR r g p).av)), (.int .i64 ((backR r g p).undo))]) ∧ Has E w' [R] := by
  refine c_enter (args := [(.agg #[(.int .i64 r.kind), (.int .i64 r.gsn), (.int .i64 r.txn), (.int .i64 r.prev), (.int .i64 r.page), (S r.key), (.bool r.bh), (S r.bv), (.bool r.ah), (S r.av), (.int .i64 r.undo)]), (.int .i64 g), (.int .i64 p)]) Try.func178 rfl Try.ntmps178 (by simp) ?_
  refine wp_seq_k fun K1 hK1 => ?_
  refine c_region ?_
  refine s_op (o_box (cs := #[(.int .i64 r.kind), (.int .i64 r.gsn), (.int .i64 r.txn), (.int .i64 r.prev), (.int .i64 r.page), (S r.key), (.bool r.bh), (S r.bv), (.bool r.ah), (S r.av), (.int .i64 r.undo)]) rfl rfl hH fun b2 w3 hH4 => ?_)
  refine s_op (o_alloc (cs := #[(.int .i64 0), (.int .i64 0), (.int .i64 0), (.int .i64 0), (.int .i64 0), (S ([] : List UInt8)), (.bool false), (S ([] : List UInt8)), (.bool false), (S ([] : List UInt8)), (.int .i64 0)]) ti32 rfl hH4 fun b5 w6 hH7 => ?_)
  refine s_nil ?_
  refine t_norm (hK1 _ _ ?_)
  refine wp_seq_k fun K8 hK8 => ?_
  refine wp_seq_k fun K9 hK9 => ?_
  refine c_region ?_
  refine s_op (o_loadN (cs := [(.int .i64 r.kind), (.int .i64 r.gsn), (.int .i64 r.txn), (.int .i64 r.prev), (.int .i64 r.page), (S r.key), (.bool r.bh), (S r.bv), (.bool r.ah), (S r.av), (.int .i64 r.undo)]) Try.underlying32 rfl ti32 rfl hH7 (seg_sub 1 rfl) (CellsAt.one rfl) ?_)
  refine s_op (o_callf (vs := #[(.agg #[(.int .i64 r.kind), (.int .i64 r.gsn), (.int .i64 r.txn), (.int .i64 r.prev), (.int .i64 r.page), (S r.key), (.bool r.bh), (S r.bv), (.bool r.ah), (S r.av), (.int .i64 r.undo)])]) ca150 rfl (args1 rfl) (right_c (r := r) hH7.all ) ?_)
  rintro _ w12 ⟨rfl, hX10⟩
  refine ⟨_, rfl, ?_⟩
  have hH11 := hX10.of_all
  refine s_op (o_not rfl ?_)
  refine s_op (o_move (v := (.bool (!(rightR r)))) rfl ?_)
  rcases Bool.eq_false_or_eq_true (!(rightR r)) with h13 | h13
  · -- !(rightR r)
    refine s_off (b' := true) 11 rfl (congrArg Value.bool h13) rfl ?_
    refine s_off (b' := true) 11 rfl (congrArg Value.bool h13) rfl ?_
    refine s_off (b' := true) 11 rfl (congrArg Value.bool h13) rfl ?_
    refine s_op (o_pick_t (u := (.bool true)) ((rfl : _ = _).trans (congrArg Value.bool h13)) rfl ?_)
    refine s_nil ?_
    refine t_norm (hK9 _ _ ?_)
    refine c_true rfl rfl ?_
    refine wp_seq_k fun K14 hK14 => ?_
    refine c_region ?_
    refine s_op (o_sight (v := (.agg #[(.int .i64 0), (.int .i64 0), (.int .i64 0), (.int .i64 0), (.int .i64 0), (S ([] : List UInt8)), (.bool false), (S ([] : List UInt8)), (.bool false), (S ([] : List UInt8)), (.int .i64 0)])) (fun _ => by kernel_rfl) ?_)
    refine s_eff (o_storeN (vs := [(.int .i64 0), (.int .i64 0), (.int .i64 0), (.int .i64 0), (.int .i64 0), (S ([] : List UInt8)), (.bool false), (S ([] : List UInt8)), (.bool false), (S ([] : List UInt8)), (.int .i64 0)]) (c' := #[(.int .i64 0), (.int .i64 0), (.int .i64 0), (.int .i64 0), (.int .i64 0), (S ([] : List UInt8)), (.bool false), (S ([] : List UInt8)), (.bool false), (S ([] : List UInt8)), (.int .i64 0)]) ti32 rfl rfl rfl rfl (by intro u hu; simp only [List.mem_cons, List.not_mem_nil, or_false] at hu; rcases hu with rfl | rfl | rfl | rfl | rfl | rfl | rfl | rfl | rfl | rfl | rfl <;> first | rfl) (by simp) (by kernel_rfl) (hH11.front 0 rfl) fun w15 hH16 => ?_)
    refine s_nil ?_
    refine t_norm (hK14 _ _ ?_)
    refine wp_ret ?_
    refine t_ret (c_retC1 Try.results178 rfl (run_loadVarN (cs := [(.int .i64 0), (.int .i64 0), (.int .i64 0), (.int .i64 0), (.int .i64 0), (S ([] : List UInt8)), (.bool false), (S ([] : List UInt8)), (.bool false), (S ([] : List UInt8)), (.int .i64 0)]) Try.underlying32 rfl ti32 hH16 (seg_sub 0 rfl) (CellsAt.one rfl)) ?_)
    have q17 : (backR r g p) = (Rec.mk 0 0 0 0 0 ([] : List UInt8) false ([] : List UInt8) false ([] : List UInt8) 0) := by (try simp at h13); unfold backR; simp [clrR, rec0, h13]
    have hH18 : Has E w15 [R] := (hH16.front 2 rfl).first 1 rfl
    exact ⟨by rw [q17], hH18⟩
  · -- not: !(rightR r)
    refine s_on 11 rfl (congrArg Value.bool h13) (o_fieldAddr (k := 0) (fun _ => by kernel_rfl) rfl ?_)
    refine s_on 11 rfl (congrArg Value.bool h13) (o_load1 (v := (.int .i64 r.kind)) Try.underlying3 rfl rfl hH11 (seg_sub 1 rfl) (CellsAt.one rfl) ?_)
    refine s_on 11 rfl (congrArg Value.bool h13) (o_neq (a := r.kind) (b := 2) rfl rfl ?_)
    refine s_op (o_pick_f (u := (.bool (decide (r.kind ≠ 2)))) ((rfl : _ = _).trans (congrArg Value.bool h13)) rfl ?_)
    refine s_nil ?_
    refine t_norm (hK9 _ _ ?_)
    refine c_cond rfl (fun h19 => ?_) (fun h19 => ?_)
    · -- r.kind ≠ 2
      refine wp_seq_k fun K20 hK20 => ?_
      refine c_region ?_
      refine s_op (o_sight (v := (.agg #[(.int .i64 0), (.int .i64 0), (.int .i64 0), (.int .i64 0), (.int .i64 0), (S ([] : List UInt8)), (.bool false), (S ([] : List UInt8)), (.bool false), (S ([] : List UInt8)), (.int .i64 0)])) (fun _ => by kernel_rfl) ?_)
      refine s_eff (o_storeN (vs := [(.int .i64 0), (.int .i64 0), (.int .i64 0), (.int .i64 0), (.int .i64 0), (S ([] : List UInt8)), (.bool false), (S ([] : List UInt8)), (.bool false), (S ([] : List UInt8)), (.int .i64 0)]) (c' := #[(.int .i64 0), (.int .i64 0), (.int .i64 0), (.int .i64 0), (.int .i64 0), (S ([] : List UInt8)), (.bool false), (S ([] : List UInt8)), (.bool false), (S ([] : List UInt8)), (.int .i64 0)]) ti32 rfl rfl rfl rfl (by intro u hu; simp only [List.mem_cons, List.not_mem_nil, or_false] at hu; rcases hu with rfl | rfl | rfl | rfl | rfl | rfl | rfl | rfl | rfl | rfl | rfl <;> first | rfl) (by simp) (by kernel_rfl) (hH11.front 0 rfl) fun w21 hH22 => ?_)
      refine s_nil ?_
      refine t_norm (hK20 _ _ ?_)
      refine wp_ret ?_
      refine t_ret (c_retC1 Try.results178 rfl (run_loadVarN (cs := [(.int .i64 0), (.int .i64 0), (.int .i64 0), (.int .i64 0), (.int .i64 0), (S ([] : List UInt8)), (.bool false), (S ([] : List UInt8)), (.bool false), (S ([] : List UInt8)), (.int .i64 0)]) Try.underlying32 rfl ti32 hH22 (seg_sub 0 rfl) (CellsAt.one rfl)) ?_)
      have q23 : (backR r g p) = (Rec.mk 0 0 0 0 0 ([] : List UInt8) false ([] : List UInt8) false ([] : List UInt8) 0) := by (try simp at h13); (try simp at h19); unfold backR; simp [clrR, rec0, h13, h19]
      have hH24 : Has E w21 [R] := (hH22.front 2 rfl).first 1 rfl
      exact ⟨by rw [q23], hH24⟩
    · -- not: r.kind ≠ 2
      refine wp_skip ?_
      refine t_norm (hK8 _ _ ?_)
      refine wp_seq_k fun K25 hK25 => ?_
      refine c_region ?_
      refine s_op (o_move (v := (.int .i64 g)) rfl ?_)
      refine s_op (o_fieldAddr (k := 2) (fun _ => by kernel_rfl) rfl ?_)
      refine s_op (o_load1 (v := (.int .i64 r.txn)) Try.underlying3 rfl rfl hH11 (seg_sub 1 rfl) (CellsAt.one rfl) ?_)
      refine s_op (o_move (v := (.int .i64 p)) rfl ?_)
      refine s_op (o_fieldAddr (k := 4) (fun _ => by kernel_rfl) rfl ?_)
      refine s_op (o_load1 (v := (.int .i64 r.page)) Try.underlying3 rfl rfl hH11 (seg_sub 1 rfl) (CellsAt.one rfl) ?_)
      refine s_op (o_fieldAddr (k := 5) (fun _ => by kernel_rfl) rfl ?_)
      refine s_op (o_load1 (v := (S r.key)) Try.underlying9 rfl rfl hH11 (seg_sub 1 rfl) (CellsAt.one rfl) ?_)
      refine s_op (o_fieldAddr (k := 8) (fun _ => by kernel_rfl) rfl ?_)
      refine s_op (o_loadN (cs := [(.bool r.ah), (S r.av)]) Try.underlying30 rfl ti30 rfl hH11 (seg_sub 1 rfl) (CellsAt.one rfl) ?_)
      refine s_op (o_fieldAddr (k := 6) (fun _ => by kernel_rfl) rfl ?_)
      refine s_op (o_loadN (cs := [(.bool r.bh), (S r.bv)]) Try.underlying30 rfl ti30 rfl hH11 (seg_sub 1 rfl) (CellsAt.one rfl) ?_)
      refine s_op (o_fieldAddr (k := 1) (fun _ => by kernel_rfl) rfl ?_)
      refine s_op (o_load1 (v := (.int .i64 r.gsn)) Try.underlying3 rfl rfl hH11 (seg_sub 1 rfl) (CellsAt.one rfl) ?_)
      refine s_op (o_sight (v := (.agg #[(.int .i64 3), (.int .i64 g), (.int .i64 r.txn), (.int .i64 p), (.int .i64 r.page), (S r.key), (.bool r.ah), (S r.av), (.bool r.bh), (S r.bv), (.int .i64 r.gsn)])) (fun _ => by kernel_rfl) ?_)
      refine s_op (o_alloc (cs := #[(.int .i64 0), (.int .i64 0), (.int .i64 0), (.int .i64 0), (.int .i64 0), (S ([] : List UInt8)), (.bool false), (S ([] : List UInt8)), (.bool false), (S ([] : List UInt8)), (.int .i64 0)]) ti32 rfl hH11 fun b26 w27 hH28 => ?_)
      refine s_eff (o_storeN (vs := [(.int .i64 3), (.int .i64 g), (.int .i64 r.txn), (.int .i64 p), (.int .i64 r.page), (S r.key), (.bool r.ah), (S r.av), (.bool r.bh), (S r.bv), (.int .i64 r.gsn)]) (c' := #[(.int .i64 3), (.int .i64 g), (.int .i64 r.txn), (.int .i64 p), (.int .i64 r.page), (S r.key), (.bool r.ah), (S r.av), (.bool r.bh), (S r.bv), (.int .i64 r.gsn)]) ti32 rfl rfl rfl rfl (by intro u hu; simp only [List.mem_cons, List.not_mem_nil, or_false] at hu; rcases hu with rfl | rfl | rfl | rfl | rfl | rfl | rfl | rfl | rfl | rfl | rfl <;> first | rfl) (by simp) (by kernel_rfl) (hH28.front 0 rfl) fun w29 hH30 => ?_)
      refine s_nil ?_
      refine t_norm (hK25 _ _ ?_)
      refine wp_seq_k fun K31 hK31 => ?_
      refine wp_seq_k fun K32 hK32 => ?_
      refine c_region ?_
      refine s_op (o_loadN (cs := [(.int .i64 3), (.int .i64 g), (.int .i64 r.txn), (.int .i64 p), (.int .i64 r.page), (S r.key), (.bool r.ah), (S r.av), (.bool r.bh), (S r.bv), (.int .i64 r.gsn)]) Try.underlying32 rfl ti32 rfl hH30 (seg_sub 0 rfl) (CellsAt.one rfl) ?_)
      refine s_op (o_callf (vs := #[(.agg #[(.int .i64 3), (.int .i64 g), (.int .i64 r.txn), (.int .i64 p), (.int .i64 r.page), (S r.key), (.bool r.ah), (S r.av), (.bool r.bh), (S r.bv), (.int .i64 r.gsn)])]) ca150 rfl (args1 rfl) (right_c (r := (Rec.mk 3 g r.txn p r.page r.key r.ah r.av r.bh r.bv r.gsn)) hH30.all ) ?_)
      rintro _ w35 ⟨rfl, hX33⟩
      refine ⟨_, rfl, ?_⟩
      have hH34 := hX33.of_all
      refine s_op (o_not rfl ?_)
      refine s_nil ?_
      refine t_norm (hK32 _ _ ?_)
      refine c_condb rfl (fun h36 => ?_) (fun h36 => ?_)
      · -- !(rightR (Rec.mk 3 g r.txn p r.page r.key r.ah r.av r.bh r.bv r.gsn))
        have h36_n : (rightR (Rec.mk 3 g r.txn p r.page r.key r.ah r.av r.bh r.bv r.gsn)) = false := by simpa using h36
        refine wp_seq_k fun K37 hK37 => ?_
        refine c_region ?_
        refine s_op (o_sight (v := (.agg #[(.int .i64 0), (.int .i64 0), (.int .i64 0), (.int .i64 0), (.int .i64 0), (S ([] : List UInt8)), (.bool false), (S ([] : List UInt8)), (.bool false), (S ([] : List UInt8)), (.int .i64 0)])) (fun _ => by kernel_rfl) ?_)
        refine s_eff (o_storeN (vs := [(.int .i64 0), (.int .i64 0), (.int .i64 0), (.int .i64 0), (.int .i64 0), (S ([] : List UInt8)), (.bool false), (S ([] : List UInt8)), (.bool false), (S ([] : List UInt8)), (.int .i64 0)]) (c' := #[(.int .i64 0), (.int .i64 0), (.int .i64 0), (.int .i64 0), (.int .i64 0), (S ([] : List UInt8)), (.bool false), (S ([] : List UInt8)), (.bool false), (S ([] : List UInt8)), (.int .i64 0)]) ti32 rfl rfl rfl rfl (by intro u hu; simp only [List.mem_cons, List.not_mem_nil, or_false] at hu; rcases hu with rfl | rfl | rfl | rfl | rfl | rfl | rfl | rfl | rfl | rfl | rfl <;> first | rfl) (by simp) (by kernel_rfl) (hH34.front 1 rfl) fun w38 hH39 => ?_)
        refine s_nil ?_
        refine t_norm (hK37 _ _ ?_)
        refine wp_ret ?_
        refine t_ret (c_retC1 Try.results178 rfl (run_loadVarN (cs := [(.int .i64 0), (.int .i64 0), (.int .i64 0), (.int .i64 0), (.int .i64 0), (S ([] : List UInt8)), (.bool false), (S ([] : List UInt8)), (.bool false), (S ([] : List UInt8)), (.int .i64 0)]) Try.underlying32 rfl ti32 hH39 (seg_sub 0 rfl) (CellsAt.one rfl)) ?_)
        have q40 : (backR r g p) = (Rec.mk 0 0 0 0 0 ([] : List UInt8) false ([] : List UInt8) false ([] : List UInt8) 0) := by (try simp at h13); (try simp at h19); (try simp at h36); (try simp at h36_n); unfold backR; simp [clrR, rec0, h13, h19, h36, h36_n]
        have hH41 : Has E w38 [R] := (hH39.front 3 rfl).first 1 rfl
        exact ⟨by rw [q40], hH41⟩
      · -- not: !(rightR (Rec.mk 3 g r.txn p r.page r.key r.ah r.av r.bh r.bv r.gsn))
        have h36_n : (rightR (Rec.mk 3 g r.txn p r.page r.key r.ah r.av r.bh r.bv r.gsn)) = true := by simpa using h36
        refine wp_skip ?_
        refine t_norm (hK31 _ _ ?_)
        refine wp_seq_k fun K42 hK42 => ?_
        refine c_region ?_
        refine s_op (o_loadN (cs := [(.int .i64 3), (.int .i64 g), (.int .i64 r.txn), (.int .i64 p), (.int .i64 r.page), (S r.key), (.bool r.ah), (S r.av), (.bool r.bh), (S r.bv), (.int .i64 r.gsn)]) Try.underlying32 rfl ti32 rfl hH34 (seg_sub 0 rfl) (CellsAt.one rfl) ?_)
        refine s_eff (o_storeN (vs := [(.int .i64 3), (.int .i64 g), (.int .i64 r.txn), (.int .i64 p), (.int .i64 r.page), (S r.key), (.bool r.ah), (S r.av), (.bool r.bh), (S r.bv), (.int .i64 r.gsn)]) (c' := #[(.int .i64 3), (.int .i64 g), (.int .i64 r.txn), (.int .i64 p), (.int .i64 r.page), (S r.key), (.bool r.ah), (S r.av), (.bool r.bh), (S r.bv), (.int .i64 r.gsn)]) ti32 rfl rfl rfl rfl (by intro u hu; simp only [List.mem_cons, List.not_mem_nil, or_false] at hu; rcases hu with rfl | rfl | rfl | rfl | rfl | rfl | rfl | rfl | rfl | rfl | rfl <;> first | rfl) (by simp) (by kernel_rfl) (hH34.front 1 rfl) fun w43 hH44 => ?_)
        refine s_nil ?_
        refine t_norm (hK42 _ _ ?_)
        refine wp_ret ?_
        refine c_retC1 Try.results178 rfl (run_loadVarN (cs := [(.int .i64 3), (.int .i64 g), (.int .i64 r.txn), (.int .i64 p), (.int .i64 r.page), (S r.key), (.bool r.ah), (S r.av), (.bool r.bh), (S r.bv), (.int .i64 r.gsn)]) Try.underlying32 rfl ti32 hH44 (seg_sub 0 rfl) (CellsAt.one rfl)) ?_
        have q45 : (backR r g p) = (Rec.mk 3 g r.txn p r.page r.key r.ah r.av r.bh r.bv r.gsn) := by (try simp at h13); (try simp at h19); (try simp at h36); (try simp at h36_n); unfold backR; simp [clrR, rec0, h13, h19, h36, h36_n]
        have hH46 : Has E w43 [R] := (hH44.front 3 rfl).first 1 rfl
        exact ⟨by rw [q45], hH46⟩
end Go.Q
namespace Go.Q
theorem own_headf {α : Type} {f : α → List Value} {sz : Nat} (hf : ∀ x, (f x).length = sz) {e : TypeId} {v : Value} {l : List α} {hs : List Hp} (h : Own e sz v l.length (l.flatMap f) hs) {j : Nat} (hj : j ≤ l.length) : Own e sz (headV v j sz) (l.take j).length ((l.take j).flatMap f) hs := by
  rw [List.length_take, Nat.min_eq_left hj, ← flatMap_take f sz hf]
  obtain ⟨hl, ⟨rfl, h0, rfl⟩ | ⟨b, cap, cur, rfl, rfl, hnc, hcm, hsz, ht⟩⟩ := h
  · have : j = 0 := by omega
    subst this
    have e0 : l = [] := List.eq_nil_of_length_eq_zero h0
    subst e0
    exact ⟨by simp, .inl ⟨rfl, rfl, rfl⟩⟩
  · refine ⟨?_, .inr ⟨b, cap, cur, ?_, rfl, by omega, hcm, hsz, ?_⟩⟩
    · rw [List.length_take, hl]; exact Nat.min_eq_left (Nat.mul_le_mul_right _ hj)
    · simp [headV, sliced, add_lit]
    · rw [← ht, List.take_take, Nat.min_eq_left (Nat.mul_le_mul_right _ hj)]
/-- the first i and the last i have changed places -/
def turnd {α : Type} (l rw' : List α) (i : Nat) : Prop := rw'.length = l.length ∧ ∀ m, m < l.length → rw'[m]? = if m < i ∨ l.length ≤ m + i then l[l.length - 1 - m]? else l[m]?
theorem turnd_0 {α : Type} (l : List α) : turnd l l 0 := ⟨rfl, fun m hm => by rw [if_neg (by omega)]⟩
theorem turnd_step {α : Type} {l r : List α} {i : Nat} {j : Int} {x y : α} (h : turnd l r i) (hj : j = (l.length : Int) - 1 - i) (hlt : (i : Int) < j) (hx : r[j.toNat]? = some x) (hy : r[i]? = some y) : turnd l ((r.set i x).set j.toNat y) (i + 1) := by
  obtain ⟨n, rfl⟩ : ∃ n : Nat, j = (n : Int) := ⟨j.toNat, by omega⟩
  rw [Int.toNat_natCast] at hx ⊢
  refine ⟨by simp [h.1], fun m hm => ?_⟩
  have hr := h.1
  rw [h.2 n (by omega), if_neg (by omega)] at hx
  rw [h.2 i (by omega), if_neg (by omega)] at hy
  by_cases e1 : m = n
  · subst e1
    rw [List.getElem?_set_self (by rw [List.length_set]; omega), if_pos (.inr (by omega)), show l.length - 1 - m = i from by omega, hy]
  · rw [List.getElem?_set_ne (Ne.symm e1)]
    by_cases e2 : m = i
    · subst e2
      rw [List.getElem?_set_self (by omega), if_pos (.inl (by omega)), show l.length - 1 - m = n from by omega, hx]
    · rw [List.getElem?_set_ne (Ne.symm e2), h.2 m hm]
      by_cases c : m < i ∨ l.length ≤ m + i
      · rw [if_pos c, if_pos (by omega)]
      · rw [if_neg c, if_neg (by omega)]
theorem turnd_end {α : Type} {l r : List α} {i : Nat} {j : Int} (h : turnd l r i) (hj : j = (l.length : Int) - 1 - i) (hlt : ¬ (i : Int) < j) : r = l.reverse := by
  apply List.ext_getElem?
  intro m
  by_cases hm : m < l.length
  · rw [h.2 m hm, List.getElem?_reverse hm]
    by_cases c : m < i ∨ l.length ≤ m + i
    · rw [if_pos c]
    · rw [if_neg c, show l.length - 1 - m = m from by omega]
  · rw [List.getElem?_eq_none (by rw [h.1]; omega), List.getElem?_eq_none (by rw [List.length_reverse]; omega)]
theorem sl_nil0 {L : List Hp} {sz n cap : Nat} {cs : List Value} (h : Sl L sz (.slice none n cap) n cs) : n = 0 := by
  obtain ⟨q, c, e, h1, h2, h3, h4⟩ := h
  cases e
  rcases Nat.eq_zero_or_pos n with h | h
  · exact h
  · obtain ⟨b, o, e, _⟩ := h4 h; cases e
end Go.Q
namespace Go.Q
/-- a row of one's own, or one without room that lies elsewhere -/
def OwnP (e : TypeId) (sz : Nat) (v : Value) (n : Nat) (cs : List Value) (hs : List Hp) : Prop := Own e sz v n cs hs ∨ (n = 0 ∧ cs = [] ∧ hs = [] ∧ ∃ b o, v = .slice (some ⟨b, o, none⟩) 0 0)
theorem OwnP.own {e : TypeId} {sz n : Nat} {v : Value} {cs : List Value} {hs : List Hp} (h : OwnP e sz v n cs hs) (hn : 0 < n) : Own e sz v n cs hs := by
  rcases h with h | ⟨h, _⟩
  · exact h
  · omega
section ops
variable {P : Program} {ρ : Operand → Value} {E w : World} {ss : List (List Hp)} {K : Value → World → Prop} {dst : Option Tmp} {T : TypeId} {pos : String} {after : Array Edge} {g : Option (Nat × Bool)}
theorem o_append_z {x y : Operand} {t e : TypeId} {z u : Value} {b off sz by_ m : Nat} {ds : List Value} {L2 : List Hp} (ht : P.underlying t = some (.slice e)) (hi : TI P e z sz by_)
    (hz : z.cells.size = sz) (hsz : 0 < sz) (hx : ρ x = .slice (some ⟨b, off, none⟩) 0 0) (hy : ρ y = u) (hu : Sl L2 sz u m ds) (H : Has E w ss) (hL2 : L2 ⊆ ss.flatten)
    (hb : m * by_ ≤ 140737488355328) (h63 : m ≤ 9223372036854775807)
    (hK : ∀ v' hs' w', OwnP e sz v' m ds hs' → Has E w' (hs' :: ss) → K v' w') :
    OK P ⟨dst, .call ⟨.builtin .append, #[x, y], #[t, t]⟩, T, pos, after, g⟩ ρ w K := by
  obtain ⟨i, hi, hiz, hisz, hiby⟩ := hi
  obtain ⟨q, cap, rfl, hnc, hcm, hl, hq⟩ := hu
  by_cases hm : m = 0
  · subst hm
    have hds : ds = [] := by simpa using hl
    subst hds
    refine o_call_builtin (v := .slice (some ⟨b, off, none⟩) 0 0) (w' := w) ?_ (hK _ [] w (.inr ⟨rfl, rfl, rfl, _, _, rfl⟩) (Has.nil H))
    cases q <;> simp [hx, hy, builtin, Builtin.append_, run_underlying ht, sizeOf, typeInfo, hi, Builtin.lenOf, Builtin.firstCells, loadCells, loadCellsFrom, storeCells]
  · obtain ⟨b2, off2, rfl, hc2⟩ := hq (by omega)
    obtain ⟨v', w', hr, ho, hg⟩ := run_append_arg_grows (P := P) w t T e i z sz by_ ht hi hiz hisz hiby hz hsz ⟨b, off, none⟩ 0 0 [] (by simp) (fun j u hj => by simp at hj)
      ⟨b2, off2, none⟩ m cap ds hl (fun j u hj => by rw [add_lit]; exact H.cell hL2 hc2 hj) (by omega) (by simpa [maxLen] using h63) (by simpa using hb)
    obtain ⟨hl', ⟨_, h0⟩ | ⟨k, cap'', cur, rfl, hk, hbk, h1, h2, h3, h4⟩⟩ := ho
    · omega
    · have hH : Has E w' ([Hp.one k (.cells cur e (0, 0))] :: ss) := by
        refine Has0.write (an := []) (an' := [Hp.one k (.cells cur e (0, 0))]) (hs := ss.flatten) H hg.os hg.tape hg.output (by simp) (fun j _ => ?_) ?_ (fun j hj _ => hg.block j hj (fun e => by cases e))
        · by_cases hjk : j = k
          · subst hjk; exact .inr hk
          · refine .inl fun h hh => ?_
            rw [List.mem_singleton.1 hh]; unfold Hp.one; rw [if_neg hjk]
        · intro h hh j o hj
          rw [List.mem_singleton.1 hh] at hj
          obtain ⟨rfl, rfl⟩ := Hp.one_some hj
          exact hbk
      refine o_call_builtin (v := .slice (some ⟨k, 0, none⟩) (0 + m) cap'') (w' := w') ?_ (hK _ [Hp.one k (.cells cur e (0, 0))] w' ?_ hH)
      · simp only [hx, hy, builtin, List.map_toArray, List.map_cons, List.map_nil, Sem.run_bind, hr, Result.andThen_ok, Sem.run_pure]
      · simp only [Nat.zero_add, List.nil_append] at *
        exact .inl ⟨hl', .inr ⟨k, cap'', cur, rfl, rfl, h1, h2, h3, h4⟩⟩
theorem o_appendP {x y : Operand} {t e : TypeId} {z v u : Value} {sz by_ n m : Nat} {cs ds : List Value} {hs L : List Hp} (ht : P.underlying t = some (.slice e)) (hi : TI P e z sz by_)
    (hz : z.cells.size = sz) (hsz : 0 < sz) (hx : ρ x = v) (ho : OwnP e sz v n cs hs) (hy : ρ y = u) (hu : Sl L sz u m ds) (H : Has E w (hs :: ss)) (hL : L ⊆ ss.flatten)
    (h1 : ∀ u ∈ ds, u.oneCell' = true) (hb : (n + m) * by_ ≤ 140737488355328) (h63 : n + m ≤ 9223372036854775807) (hm : 0 < m)
    (hK : ∀ v' hs' w', Own e sz v' (n + m) (cs ++ ds) hs' → Has E w' (hs' :: ss) → K v' w') :
    OK P ⟨dst, .call ⟨.builtin .append, #[x, y], #[t, t]⟩, T, pos, after, g⟩ ρ w K := by
  rcases ho with ho | ⟨rfl, rfl, rfl, b, o, rfl⟩
  · exact o_append ht hi hz hsz hx ho hy hu H hL h1 hb h63 hK
  · refine o_append_z ht hi hz hsz hx hy hu H.drop hL (by simpa using hb) (by omega) fun v' hs' w' ho' H' => hK v' hs' w' ?_ H'
    simpa using ho'.own hm
end ops
end Go.Q
namespace Go.Q
open Go.Proofs
set_option linter.unusedVariables false
set_option maxRecDepth 100000
attribute [local irreducible] wpList OK Code.wp
set_option maxHeartbeats 4000000 in
theorem rclone_c_p {E w : World} {R : List Hp} (hH : Has E w [R]) {p : Option Addr} {cap : Nat} {l : List Rec} (hv : Sl R 11 (.slice p l.length cap) l.length (l.flatMap recC)) (hl : l.length ≤ 1000000) :
    Calls Try.prog 71 #[(.slice p l.length cap)] w fun e w' => ∃ v' hs', e = .returned v' ∧ Own 32 11 v' l.length (l.flatMap recC) hs' ∧ Has E w' [hs', R] := by
  refine c_enter (args := [(.slice p l.length cap)]) Try.func71 rfl Try.ntmps71 (by simp) ?_
  refine wp_seq_k fun K1 hK1 => ?_
  refine c_region ?_
  refine s_op (o_assign (v := (.slice none 0 0)) rfl ?_)
  refine s_nil ?_
  refine t_norm (hK1 _ _ ?_)
  refine wp_seq_k fun K2 hK2 => ?_
  refine wp_seq_k fun K3 hK3 => ?_
  refine c_region ?_
  refine s_op (o_move (v := (.slice p l.length cap)) rfl ?_)
  refine s_op (o_snil Try.underlying22 rfl rfl ?_)
  refine s_nil ?_
  refine t_norm (hK3 _ _ ?_)
  refine c_condb rfl (fun h4 => ?_) (fun h4 => ?_)
  · -- p.isNone
    refine wp_seq_k fun K5 hK5 => ?_
    refine c_region ?_
    refine s_op (o_assign (v := (.slice none 0 0)) rfl ?_)
    refine s_nil ?_
    refine t_norm (hK5 _ _ ?_)
    refine wp_ret ?_
    refine t_ret (c_ret1 Try.results71  (v := (.slice none 0 0)) rfl ?_)
    have e0 : l = [] := List.eq_nil_of_length_eq_zero (by obtain rfl : p = none := (by simpa using h4); exact sl_nil0 hv)
    subst e0
    exact ⟨_, _, rfl, Own.nil 32 11, Has.nil hH⟩
  · -- not: p.isNone
    refine wp_skip ?_
    refine t_norm (hK2 _ _ ?_)
    refine wp_seq_k fun K6 hK6 => ?_
    refine c_region ?_
    refine s_op (o_buildSlice (ps := #[]) (cells := #[]) Try.underlying22 ti32 (by decide) (parts0) (by kernel_rfl) hH fun b7 w8 hH9 => ?_)
    refine s_op (o_move (v := (.slice p l.length cap)) rfl ?_)
    refine s_op (o_append Try.underlying22 ti32 rfl (by decide) rfl (Own.lit (e := 32) (sz := 11) (n := 0) (b := b7) (cur := #[]) rfl (by decide)) rfl hv (hH9.front 0 rfl) (seg_sub 0 rfl) (one_recC _) (by simp; omega) (by simp; omega) fun v10 s11 w13 ho12 hH14 => ?_)
    have ho12 : Own 32 11 v10 l.length (l.flatMap recC) s11 := Own.appF (a := []) ho12
    refine s_op (o_assign (v := v10) rfl ?_)
    refine s_nil ?_
    refine t_norm (hK6 _ _ ?_)
    refine wp_ret ?_
    refine c_ret1 Try.results71  (v := v10) rfl ?_
    exact ⟨_, _, rfl, by simpa using ho12, hH14⟩
theorem rclone_c {E w : World} {R : List Hp} {v_l : Value} {l : List Rec} (hH : Has E w [R]) (h_l : Sl R 11 v_l l.length (l.flatMap recC)) (hn : l.length ≤ 1000000) :
    Calls Try.prog 71 #[v_l] w fun e w' => ∃ v' hs', e = .returned v' ∧ Own 32 11 v' l.length (l.flatMap recC) hs' ∧ Has E w' [hs', R] := by
  obtain ⟨p, cap, rfl⟩ := Sl.form h_l
  exact rclone_c_p hH h_l hn
set_option maxHeartbeats 4000000 in
theorem plclone_c_p {E w : World} {R : List Hp} (hH : Has E w [R]) {p : Option Addr} {cap : Nat} {l : List (Int × Int)} (hv : Sl R 2 (.slice p l.length cap) l.length (l.flatMap tmC)) (hl : l.length ≤ 1000000) :
    Calls Try.prog 116 #[(.slice p l.length cap)] w fun e w' => ∃ v' hs', e = .returned v' ∧ Own 39 2 v' l.length (l.flatMap tmC) hs' ∧ Has E w' [hs', R] := by
  refine c_enter (args := [(.slice p l.length cap)]) Try.func116 rfl Try.ntmps116 (by simp) ?_
  refine wp_seq_k fun K1 hK1 => ?_
  refine c_region ?_
  refine s_op (o_assign (v := (.slice none 0 0)) rfl ?_)
  refine s_nil ?_
  refine t_norm (hK1 _ _ ?_)
  refine wp_seq_k fun K2 hK2 => ?_
  refine wp_seq_k fun K3 hK3 => ?_
  refine c_region ?_
  refine s_op (o_move (v := (.slice p l.length cap)) rfl ?_)
  refine s_op (o_snil Try.underlying33 rfl rfl ?_)
  refine s_nil ?_
  refine t_norm (hK3 _ _ ?_)
  refine c_condb rfl (fun h4 => ?_) (fun h4 => ?_)
  · -- p.isNone
    refine wp_seq_k fun K5 hK5 => ?_
    refine c_region ?_
    refine s_op (o_assign (v := (.slice none 0 0)) rfl ?_)
    refine s_nil ?_
    refine t_norm (hK5 _ _ ?_)
    refine wp_ret ?_
    refine t_ret (c_ret1 Try.results116  (v := (.slice none 0 0)) rfl ?_)
    have e0 : l = [] := List.eq_nil_of_length_eq_zero (by obtain rfl : p = none := (by simpa using h4); exact sl_nil0 hv)
    subst e0
    exact ⟨_, _, rfl, Own.nil 39 2, Has.nil hH⟩
  · -- not: p.isNone
    refine wp_skip ?_
    refine t_norm (hK2 _ _ ?_)
    refine wp_seq_k fun K6 hK6 => ?_
    refine c_region ?_
    refine s_op (o_buildSlice (ps := #[]) (cells := #[]) Try.underlying33 ti39 (by decide) (parts0) (by kernel_rfl) hH fun b7 w8 hH9 => ?_)
    refine s_op (o_move (v := (.slice p l.length cap)) rfl ?_)
    refine s_op (o_append Try.underlying33 ti39 rfl (by decide) rfl (Own.lit (e := 39) (sz := 2) (n := 0) (b := b7) (cur := #[]) rfl (by decide)) rfl hv (hH9.front 0 rfl) (seg_sub 0 rfl) (one_tm _) (by simp; omega) (by simp; omega) fun v10 s11 w13 ho12 hH14 => ?_)
    have ho12 : Own 39 2 v10 l.length (l.flatMap tmC) s11 := Own.appF (a := []) ho12
    refine s_op (o_assign (v := v10) rfl ?_)
    refine s_nil ?_
    refine t_norm (hK6 _ _ ?_)
    refine wp_ret ?_
    refine c_ret1 Try.results116  (v := v10) rfl ?_
    exact ⟨_, _, rfl, by simpa using ho12, hH14⟩
theorem plclone_c {E w : World} {R : List Hp} {v_l : Value} {l : List (Int × Int)} (hH : Has E w [R]) (h_l : Sl R 2 v_l l.length (l.flatMap tmC)) (hn : l.length ≤ 1000000) :
    Calls Try.prog 116 #[v_l] w fun e w' => ∃ v' hs', e = .returned v' ∧ Own 39 2 v' l.length (l.flatMap tmC) hs' ∧ Has E w' [hs', R] := by
  obtain ⟨p, cap, rfl⟩ := Sl.form h_l
  exact plclone_c_p hH h_l hn
set_option maxHeartbeats 4000000 in
theorem rrev_c {E w : World} {R hs : List Hp} {v : Value} {l : List Rec} (hH : Has E w [hs, R]) (ho : Own 32 11 v l.length (l.flatMap recC) hs) (hn : l.length ≤ 1000000) :
    Calls Try.prog 72 #[v] w fun e w' => ∃ hs', e = .returned (.tuple #[]) ∧ Own 32 11 v l.reverse.length (l.reverse.flatMap recC) hs' ∧ Has E w' [hs', R] := by
  refine c_enter (args := [v]) Try.func72 rfl Try.ntmps72 (by simp) ?_
  refine wp_seq_k fun K1 hK1 => ?_
  refine c_region ?_
  refine s_op (o_move (v := v) rfl ?_)
  refine s_op (o_lenS Try.underlying22 rfl ho.sl ?_)
  refine s_op (o_sub (a := ((l.length : Nat) : Int)) (b := 1) rfl rfl (w64 (by omega) (by omega)) ?_)
  refine s_op (o_assign (v := (.int .i64 0)) rfl ?_)
  refine s_op (o_assign (v := (.int .i64 (((l.length : Nat) : Int) - 1))) rfl ?_)
  refine s_nil ?_
  refine t_norm (hK1 _ _ ?_)
  refine wp_block ?_
  let I3 : Nat → (Nat → Value) → World → Prop := fun n__ r__ w__ => ∃ (i : Nat) (jj : Int) (sw : List Hp) (lw : List Rec), n__ = (jj - i).toNat ∧ Has E w__ [sw, R] ∧ (jj = (l.length : Int) - 1 - i ∧ 0 ≤ jj + 1 ∧ i ≤ l.length + 1) ∧ (Own 32 11 v lw.length (lw.flatMap recC) sw) ∧ (turnd l lw i) ∧ r__ 0 = v ∧ r__ 2 = (.int .i64 (i : Int)) ∧ r__ 3 = (.int .i64 jj)
  refine c_loop I3 _ ⟨0, ((l.length : Int) - 1), hs, l, rfl, hH, ⟨by omega, by omega, by omega⟩, ho, turnd_0 l, rfl, rfl, rfl⟩ ?_
  rintro n_ r6 w4 ⟨i, jj, sw, lw, rfl, hH5, hij, hw, htu, e2_0, e2_2, e2_3⟩
  obtain ⟨hij1, hij2, hij3⟩ := hij
  have hlw_ := htu.1
  refine wp_seq_k fun K7 hK7 => ?_
  refine wp_seq_k fun K8 hK8 => ?_
  refine c_region ?_
  refine s_op (o_move (v := (.int .i64 (i : Int))) e2_2 ?_)
  refine s_op (o_move (v := (.int .i64 jj)) e2_3 ?_)
  refine s_op (o_lss (a := (i : Int)) (b := jj) rfl rfl ?_)
  refine s_nil ?_
  refine t_norm (hK8 _ _ ?_)
  refine c_cond rfl (fun h9 => ?_) (fun h9 => ?_)
  · -- (i : Int) < jj
    refine wp_skip ?_
    refine t_norm (hK7 _ _ ?_)
    refine wp_seq_k fun K10 hK10 => ?_
    refine wp_block ?_
    refine Rest.region mixed (by kernel_rfl) ?_
    have hH11 : Has E { w4 with drawn := w4.drawn + 1 } [sw, R] := Has0.drew hH5 _
    refine Rest.phaseE (I2 E 12 [sw] []) 0 14 14 rfl (by decide) (by kernel_rfl) fun hC12 => ?_
    refine e_op 0 hC12 rfl rfl (by kernel_rfl) (I2.early (by kernel_rfl) (by kernel_rfl)) (fun w_ h_ => o_move (v := v) e2_0 ⟨rfl, rfl⟩) fun hC13 => ?_
    refine e_op 1 hC13 rfl rfl (by kernel_rfl) (I2.early (by kernel_rfl) (by kernel_rfl)) (fun w_ h_ => o_move (v := (.int .i64 (i : Int))) e2_2 ⟨rfl, rfl⟩) fun hC14 => ?_
    refine e_op 2 hC14 rfl rfl (by kernel_rfl) I2.late (fun w_ h_ => o_move (v := v) e2_0 ⟨rfl, rfl⟩) fun hC15 => ?_
    refine e_op 3 hC15 rfl rfl (by kernel_rfl) I2.late (fun w_ h_ => o_move (v := (.int .i64 jj)) e2_3 ⟨rfl, rfl⟩) fun hC16 => ?_
    refine e_op 4 hC16 rfl rfl (by kernel_rfl) (I2.early (by kernel_rfl) (by kernel_rfl)) (fun w_ h_ => o_move (v := v) e2_0 ⟨rfl, rfl⟩) fun hC17 => ?_
    refine e_op 5 hC17 rfl rfl (by kernel_rfl) (I2.early (by kernel_rfl) (by kernel_rfl)) (fun w_ h_ => o_move (v := (.int .i64 jj)) e2_3 ⟨rfl, rfl⟩) fun hC18 => ?_
    obtain ⟨x23, hx24⟩ : ∃ x_, lw[(jj).toNat]? = some x_ := get_some (by omega)
    obtain ⟨b20, o21, hc22, ho25⟩ := ix_exF recC_len Try.underlying22 ti32 hw.sl (by omega) hx24
    refine e_op 6 hC18 rfl rfl (by kernel_rfl) (I2.early (by kernel_rfl) (by kernel_rfl)) (fun w_ h_ => ho25 rfl rfl ⟨rfl, rfl⟩) fun hC19 => ?_
    refine e_op 7 hC19 rfl rfl (by kernel_rfl) (I2.early (by kernel_rfl) (by kernel_rfl)) (fun w_ h_ => o_loadN (cs := [(.int .i64 x23.kind), (.int .i64 x23.gsn), (.int .i64 x23.txn), (.int .i64 x23.prev), (.int .i64 x23.page), (S x23.key), (.bool x23.bh), (S x23.bv), (.bool x23.ah), (S x23.av), (.int .i64 x23.undo)]) Try.underlying32 rfl ti32 rfl h_ (seg_sub 0 rfl) hc22 ⟨rfl, rfl⟩) fun hC26 => ?_
    refine e_op 8 hC26 rfl rfl (by kernel_rfl) (I2.early (by kernel_rfl) (by kernel_rfl)) (fun w_ h_ => o_move (v := v) e2_0 ⟨rfl, rfl⟩) fun hC27 => ?_
    refine e_op 9 hC27 rfl rfl (by kernel_rfl) (I2.early (by kernel_rfl) (by kernel_rfl)) (fun w_ h_ => o_move (v := (.int .i64 (i : Int))) e2_2 ⟨rfl, rfl⟩) fun hC28 => ?_
    obtain ⟨x33, hx34⟩ : ∃ x_, lw[((i : Int)).toNat]? = some x_ := get_some (by omega)
    obtain ⟨b30, o31, hc32, ho35⟩ := ix_exF recC_len Try.underlying22 ti32 hw.sl (by omega) hx34
    refine e_op 10 hC28 rfl rfl (by kernel_rfl) (I2.early (by kernel_rfl) (by kernel_rfl)) (fun w_ h_ => ho35 rfl rfl ⟨rfl, rfl⟩) fun hC29 => ?_
    refine e_op 11 hC29 rfl rfl (by kernel_rfl) (I2.early (by kernel_rfl) (by kernel_rfl)) (fun w_ h_ => o_loadN (cs := [(.int .i64 x33.kind), (.int .i64 x33.gsn), (.int .i64 x33.txn), (.int .i64 x33.prev), (.int .i64 x33.page), (S x33.key), (.bool x33.bh), (S x33.bv), (.bool x33.ah), (S x33.av), (.int .i64 x33.undo)]) Try.underlying32 rfl ti32 rfl h_ (seg_sub 0 rfl) hc32 ⟨rfl, rfl⟩) fun hC36 => ?_
    have hH37 : Has E { w4 with drawn := w4.drawn + 1 } [] := hH11.first 0 rfl
    have hH39 : Has E { w4 with drawn := w4.drawn + 1 } [sw] := hH11.first 1 rfl
    have hH40 : Has E { w4 with drawn := w4.drawn + 1 } [] := hH11.first 0 rfl
    refine e_w 12 hC36 rfl (by kernel_rfl) (I2.mk1 hH39 hH40) fun hC38 => (o_ownAddrF Try.underlying22 ti32 rfl hw rfl (by omega) (by first | omega | (simp only [List.length_append, List.length_cons, List.length_nil, List.length_set]; omega)) fun b41 ho42 => ?_)
    have hH43 : Has E { w4 with drawn := w4.drawn + 1 } [] := hH11.first 0 rfl
    have hH45 : Has E { w4 with drawn := w4.drawn + 1 } [] := hH11.first 0 rfl
    refine e_we 13 hC38 rfl (by kernel_rfl) (I2.mk2 (by kernel_rfl) hH45) fun hC44 => (o_ownStoreF (f := recC) (l := lw) (a := x23) (i := ((i : Int)).toNat) recC_len ti32 rfl rfl rfl (fun u_ hu_ => (one_recC [x23]) u_ (by simpa using hu_)) ho42 (by first | rfl | (simp only [List.length_append, List.length_cons, List.length_nil, List.length_set]; done) | simp) (by first | omega | (simp only [List.length_append, List.length_cons, List.length_nil, List.length_set]; omega)) hH11 fun s46 w47 ho48 hH49 => ?_)
    have hH50 : Has E w47 [] := hH49.first 0 rfl
    refine e_done (by kernel_rfl) (I2.mk2 (by kernel_rfl) hH50) ?_
    refine r_op 14 rfl (by kernel_rfl) (o_ownAddrF Try.underlying22 ti32 rfl ho48 rfl (by omega) (by first | omega | (simp only [List.length_append, List.length_cons, List.length_nil, List.length_set]; omega)) fun b51 ho52 => ?_)
    refine r_eff 15 rfl (by kernel_rfl) (o_ownStoreF (f := recC) (l := (lw.set (((i : Int)).toNat) x23)) (a := x33) (i := (jj).toNat) recC_len ti32 rfl rfl rfl (fun u_ hu_ => (one_recC [x33]) u_ (by simpa using hu_)) ho52 (by first | rfl | (simp only [List.length_append, List.length_cons, List.length_nil, List.length_set]; done) | simp) (by first | omega | (simp only [List.length_append, List.length_cons, List.length_nil, List.length_set]; omega)) hH49 fun s53 w54 ho55 hH56 => ?_)
    refine Rest.done (by kernel_rfl) ?_
    refine b_norm ?_
    refine t_norm (hK10 _ _ ?_)
    refine c_region ?_
    refine s_op (o_move (v := (.int .i64 (i : Int))) e2_2 ?_)
    refine s_op (o_add (a := (i : Int)) (b := 1) rfl rfl (w64 (by omega) (by omega)) ?_)
    refine s_op (o_move (v := (.int .i64 jj)) e2_3 ?_)
    refine s_op (o_sub (a := jj) (b := 1) rfl rfl (w64 (by omega) (by omega)) ?_)
    refine s_op (o_assign (v := (.int .i64 ((i : Int) + 1))) rfl ?_)
    refine s_op (o_assign (v := (.int .i64 (jj - 1))) rfl ?_)
    refine s_nil ?_
    refine t_norm ⟨((jj - 1) - (i + 1)).toNat, _, rfl, ?_, ?_⟩
    · omega
    · exact ⟨(i + 1), (jj - 1), s53, ((lw.set (((i : Int)).toNat) x23).set ((jj).toNat) x33), rfl, hH56, (⟨by omega, by omega, by omega⟩), (ho55), (turnd_step htu hij1 (by omega) (show lw[jj.toNat]? = some _ from hx24) (show lw[i]? = some _ from hx34)), e2_0, rfl, rfl⟩
  · -- not: (i : Int) < jj
    refine wp_exit ?_
    refine t_exit (t_exit (x_in (?_)))
    refine c_end0 Try.results72  ?_
    have q_ := turnd_end htu hij1 (by omega)
    exact ⟨_, rfl, by rw [← q_]; exact hw, hH5⟩
end Go.Q
namespace Go.Q
open Go.MapKept
def lookN : List (Int × Value) → Int → Nat → Option (Nat × Value)
  | [], _, _ => none
  | (a, v) :: t, k, i => if k = a then some (i, v) else lookN t k (i + 1)
def ents (l : List (Int × Value)) : List (Value × Value) := l.map fun p => (.int .i64 p.1, p.2)
theorem findNow_int (k : Int) : ∀ (es : List MapEntry) (l : List (Int × Value)) (i : Nat), es.map (fun e => (e.key, e.val)) = ents l → Instr.findNow (.int .i64) (.int .i64 k) es i = some (lookN l k i)
  | [], [], i, _ => rfl
  | [], _ :: _, i, h => by simp [ents] at h
  | _ :: _, [], i, h => by simp [ents] at h
  | e :: es, (a, v) :: l, i, h => by
    simp only [ents, List.map_cons, List.cons.injEq, Prod.mk.injEq] at h
    obtain ⟨⟨h1, h2⟩, h3⟩ := h
    unfold Instr.findNow
    rw [h1]
    simp only [Instr.sameNow, if_true]
    by_cases g : k = a
    · subst g; simp [lookN, h2]
    · have : (k == a) = false := by simpa using g
      rw [this]
      simp only
      rw [findNow_int k es l (i + 1) h3]
      simp [lookN, g]
def getM (l : List (Int × Value)) (k : Int) : Option Value := (lookN l k 0).map (·.2)
theorem lookN_shift (l : List (Int × Value)) (k : Int) : ∀ i, lookN l k i = (lookN l k 0).map fun p => (p.1 + i, p.2) := by
  induction l with
  | nil => intro i; rfl
  | cons p t ih =>
    intro i
    obtain ⟨a, v⟩ := p
    simp only [lookN]
    split
    · simp
    · rw [ih (i + 1), ih 1]
      cases lookN t k 0 <;> simp; omega
theorem getM_cons (a : Int) (v : Value) (t : List (Int × Value)) (k : Int) : getM ((a, v) :: t) k = if k = a then some v else getM t k := by
  simp only [getM, lookN]
  split
  · rfl
  · rw [lookN_shift]; cases lookN t k 0 <;> rfl
def putM : List (Int × Value) → Int → Value → List (Int × Value)
  | [], k, v => [(k, v)]
  | (a, u) :: t, k, v => if k = a then (k, v) :: t else (a, u) :: putM t k v
theorem getM_put (k : Int) (v : Value) (k' : Int) : ∀ l, getM (putM l k v) k' = if k' = k then some v else getM l k'
  | [] => by rw [putM, getM_cons]
  | (a, u) :: t => by
    rw [putM]
    split
    · rename_i h; subst h; rw [getM_cons, getM_cons]; split <;> rfl
    · rename_i h
      rw [getM_cons, getM_cons, getM_put k v k' t]
      split
      · rename_i g; rw [if_neg (fun e => h (e.symm.trans g))]
      · rfl
theorem put_found (k : Int) (v : Value) : ∀ (l : List (Int × Value)) (i : Nat) (u : Value) (j : Nat), lookN l k j = some (i + j, u) → putM l k v = l.set i (k, v)
  | [], i, u, j, h => by cases h
  | (a, x) :: t, i, u, j, h => by
    rw [lookN] at h
    rw [putM]
    split at h
    · rename_i g
      obtain rfl : i = 0 := by simp at h; omega
      rw [if_pos g]; rfl
    · rename_i g
      rw [if_neg g]
      cases i with
      | zero =>
        exfalso
        rw [lookN_shift] at h
        cases hl : lookN t k 0 with
        | none => rw [hl] at h; cases h
        | some p => rw [hl] at h; simp at h; omega
      | succ i => rw [put_found k v t i u (j + 1) (by rw [h]; congr 2; omega)]; rfl
theorem put_none' (k : Int) (v : Value) : ∀ (l : List (Int × Value)) (j : Nat), lookN l k j = none → putM l k v = l ++ [(k, v)]
  | [], _, _ => rfl
  | (a, x) :: t, j, h => by
    rw [lookN] at h
    split at h
    · cases h
    · rename_i g; rw [putM, if_neg g, put_none' k v t (j + 1) h]; rfl
theorem lookN_get (k : Int) : ∀ (l : List (Int × Value)) (i : Nat) (u : Value) (j : Nat), lookN l k j = some (i + j, u) → l[i]? = some (k, u)
  | [], i, u, j, h => by cases h
  | (a, x) :: t, i, u, j, h => by
    rw [lookN] at h
    split at h
    · rename_i g
      obtain rfl : i = 0 := by simp at h; omega
      simp at h; simp [g, h]
    · rename_i g
      cases i with
      | zero =>
        exfalso
        rw [lookN_shift] at h
        cases hl : lookN t k 0 with
        | none => rw [hl] at h; cases h
        | some p => rw [hl] at h; simp at h; omega
      | succ i => simpa using lookN_get k t i u (j + 1) (by rw [h]; congr 2; omega)
theorem modify_map {β γ : Type} (f : β → β) (g : β → γ) (z : γ) (hz : ∀ e, g (f e) = z) : ∀ (l : List β) (i : Nat), (l.modify i f).map g = (l.map g).set i z
  | [], i => by simp
  | e :: t, 0 => by simp [hz]
  | e :: t, i + 1 => by simp [modify_map f g z hz t i]
theorem Has.setMap {E w : World} {ss : List (List Hp)} {b : Nat} {o o' : Obj} (H : Has E w ([Hp.one b o] :: ss)) : Has E { w with heap := w.heap.setIfInBounds b o' } ([Hp.one b o'] :: ss) := by
  have hwb : w.heap[b]? = some o := H.at (h := Hp.one b o) (by simp) (Hp.one_at _ _)
  have hlt : b < w.heap.size := (Array.getElem?_eq_some_iff.1 hwb).1
  refine Has0.write (an := [Hp.one b o]) (an' := [Hp.one b o']) (hs := ss.flatten) H rfl rfl rfl (by simp) ?_ ?_ ?_
  · intro k hk
    have hk := hk _ (List.mem_singleton.2 rfl)
    refine .inl fun h hh => ?_
    rw [List.mem_singleton.1 hh]
    unfold Hp.one at hk ⊢
    split at hk
    · cases hk
    · rw [if_neg (by assumption)]
  · intro h hh k o hk
    rw [List.mem_singleton.1 hh] at hk
    obtain ⟨rfl, rfl⟩ := Hp.one_some hk
    simp [hlt]
  · intro k _ hk
    have hk := hk _ (List.mem_singleton.2 rfl)
    have : k ≠ b := by rintro rfl; rw [Hp.one_at] at hk; cases hk
    simp [Array.getElem?_setIfInBounds, Ne.symm this]
section ops
variable {P : Program} {ρ : Operand → Value} {E w : World} {ss : List (List Hp)} {K : Value → World → Prop} {dst : Option Tmp} {T : TypeId} {pos : String} {after : Array Edge} {g : Option (Nat × Bool)}
theorem o_lookup {x y : Operand} {t kt et : TypeId} {b : Nat} {es : Array MapEntry} {c : Nat} {l : List (Int × Value)} {z : Value} {sz by_ : Nat} {k : Int} (ht : P.underlying t = some (.map kt et)) (hk : P.underlying kt = some (.int .i64)) (hz : TI P et z sz by_)
    (hx : ρ x = .map (some b)) (hy : ρ y = .int .i64 k) (H : Has E w ss) {L : List Hp} (hL : L ⊆ ss.flatten) (hb : ∃ h ∈ L, h b = some (.map es c)) (he : es.toList.map (fun e => (e.key, e.val)) = ents l) (hK : K ((getM l k).getD z) w) :
    OK P ⟨dst, .lookup t x y false, T, pos, after, g⟩ ρ w K := by
  obtain ⟨h, hh, hb⟩ := hb
  have hwb := H.at (hL hh) hb
  refine OK.val (run_v ?_) hK
  rw [hx, hy]
  have hf := run_findKey (P := P) (w := w) hk (findNow_int k es.toList l 0 he)
  obtain ⟨i, hi, hiz, _, _⟩ := hz
  have hc : (Instr.checkKey es.isEmpty 10000 kt (.int .i64 k)).run P w = .ok () w := run_checkKey hk (by simp [IsKey]) es.isEmpty 9999
  have hg : (getObj b).run P w = .ok (.map es c) w := by simp [getObj, Sem.run, hwb]
  cases hl : lookN l k 0 with
  | none => rw [hl] at hf; simp [Instr.lookup, run_underlying ht, hg, hf, hc, getM, hl, zeroValue, typeInfo, hi, hiz, Result.andThen]
  | some p => rw [hl] at hf; simp [Instr.lookup, run_underlying ht, hg, hf, hc, getM, hl, Result.andThen]
theorem run_stays {w : World} (a b : Int) (h : a = b) : (Instr.keyThatStays (.int .i64 a) (.int .i64 b)).run P w = .ok (.int .i64 b) w := by
  subst h; simp [Instr.keyThatStays, Instr.sameBits]
theorem o_mapUpdate {x y u : Operand} {t kt et : TypeId} {b : Nat} {es : Array MapEntry} {c : Nat} {l : List (Int × Value)} {v : Value} {k : Int} (ht : P.underlying t = some (.map kt et)) (hk : P.underlying kt = some (.int .i64))
    (hx : ρ x = .map (some b)) (hy : ρ y = .int .i64 k) (hu : ρ u = v) (H : Has E w ([Hp.one b (.map es c)] :: ss)) (he : es.toList.map (fun e => (e.key, e.val)) = ents l)
    (hK : ∀ es' c' w', es'.toList.map (fun e : MapEntry => (e.key, e.val)) = ents (putM l k v) → Has E w' ([Hp.one b (.map es' c')] :: ss) → K undef w') :
    OK P ⟨dst, .mapUpdate t x y u, T, pos, after, g⟩ ρ w K := by
  have hwb : w.heap[b]? = some (.map es c) := H.at (h := Hp.one b (.map es c)) (by simp) (Hp.one_at _ _)
  have hf := run_findKey (P := P) (w := w) hk (findNow_int k es.toList l 0 he)
  have hc : (Instr.checkKey false 10000 kt (.int .i64 k)).run P w = .ok () w := run_checkKey hk (by simp [IsKey]) false 9999
  have hg : (getObj b).run P w = .ok (.map es c) w := by simp [getObj, Sem.run, hwb]
  have hs : ∀ o, (setObj b o).run P w = .ok () { w with heap := w.heap.setIfInBounds b o } := fun o => run_setObj_map o hwb
  cases hl : lookN l k 0 with
  | none =>
    rw [hl] at hf
    refine OK.skip (w' := { w with heap := w.heap.setIfInBounds b (.map (es.push ⟨.int .i64 k, v, c⟩) (c + 1)) }) (run_u ?_) (hK _ _ _ ?_ H.setMap)
    · rw [hx, hy, hu]; simp [Instr.mapUpdate, run_underlying ht, hg, hf, hc, hs, Result.andThen]
    · rw [put_none' k v l 0 hl]; simp [he, ents]
  | some p =>
    obtain ⟨i, v0⟩ := p
    rw [hl] at hf
    have hi := lookN_get k l i v0 0 hl
    have hes : ∃ e, es[i]? = some e ∧ e.key = .int .i64 k := by
      have h1 : (es.toList.map (fun e : MapEntry => (e.key, e.val)))[i]? = some (.int .i64 k, v0) := by rw [he, ents, List.getElem?_map, hi]; rfl
      rw [List.getElem?_map, Option.map_eq_some_iff] at h1
      obtain ⟨e, h2, h3⟩ := h1
      exact ⟨e, by simpa using h2, congrArg Prod.fst h3⟩
    obtain ⟨e, h2, h3⟩ := hes
    refine OK.skip (w' := { w with heap := w.heap.setIfInBounds b (.map (es.modify i fun e => { e with key := .int .i64 k, val := v }) c) }) (run_u ?_) (hK _ _ _ ?_ H.setMap)
    · rw [hx, hy, hu]; simp [Instr.mapUpdate, run_underlying ht, hg, hf, hc, hs, Result.andThen, h2, h3, run_stays]
    · rw [put_found k v l i v0 0 hl, Array.toList_modify, modify_map (fun e : MapEntry => { e with key := .int .i64 k, val := v }) (fun e : MapEntry => (e.key, e.val)) (Value.int .i64 k, v) (fun _ => rfl), he, ents, ents, List.map_set]
end ops
end Go.Q
namespace Go.Q
open Go.MapKept
section
variable {κ β : Type} [DecidableEq κ]
def lookB : List (κ × β) → κ → Nat → Option (Nat × β)
  | [], _, _ => none
  | (a, v) :: t, k, i => if k = a then some (i, v) else lookB t k (i + 1)
def getB : List (κ × β) → κ → Option β
  | [], _ => none
  | (a, v) :: t, k => if k = a then some v else getB t k
def putB : List (κ × β) → κ → β → List (κ × β)
  | [], k, v => [(k, v)]
  | (a, u) :: t, k, v => if k = a then (k, v) :: t else (a, u) :: putB t k v
def delB : List (κ × β) → κ → List (κ × β)
  | [], _ => []
  | (a, u) :: t, k => if k = a then t else (a, u) :: delB t k
theorem lookB_shift (k : κ) : ∀ (l : List (κ × β)) (i : Nat), lookB l k i = (lookB l k 0).map fun p => (p.1 + i, p.2)
  | [], _ => rfl
  | (a, v) :: t, i => by
    simp only [lookB]
    split
    · simp
    · rw [lookB_shift k t (i + 1), lookB_shift k t 1]
      cases lookB t k 0 <;> simp; omega
theorem lookB_val (k : κ) : ∀ (l : List (κ × β)) (i : Nat), (lookB l k i).map (·.2) = getB l k
  | [], _ => rfl
  | (a, v) :: t, i => by
    simp only [lookB, getB]
    split
    · rfl
    · exact lookB_val k t (i + 1)
theorem lookB_cons {a k : κ} {u v : β} {t : List (κ × β)} {i : Nat} (hne : k ≠ a) (h : lookB ((a, u) :: t) k 0 = some (i, v)) : ∃ j, i = j + 1 ∧ lookB t k 0 = some (j, v) := by
  rw [lookB, if_neg hne, lookB_shift] at h
  cases hl : lookB t k 0 with
  | none => rw [hl] at h; cases h
  | some p =>
    rw [hl] at h
    obtain ⟨j, x⟩ := p
    simp only [Option.map_some, Option.some.injEq, Prod.mk.injEq] at h
    exact ⟨j, by omega, by rw [h.2]⟩
theorem lookB_get (k : κ) : ∀ (l : List (κ × β)) (i : Nat) (v : β), lookB l k 0 = some (i, v) → l[i]? = some (k, v)
  | [], _, _, h => by cases h
  | (a, u) :: t, i, v, h => by
    by_cases g : k = a
    · rw [lookB, if_pos g] at h
      simp only [Option.some.injEq, Prod.mk.injEq] at h
      obtain ⟨rfl, rfl⟩ := h; subst g; rfl
    · obtain ⟨j, rfl, h'⟩ := lookB_cons g h
      simpa using lookB_get k t j v h'
theorem putB_at (k : κ) (v : β) : ∀ (l : List (κ × β)) (i : Nat) (u : β), lookB l k 0 = some (i, u) → putB l k v = l.set i (k, v)
  | [], _, _, h => by cases h
  | (a, x) :: t, i, u, h => by
    rw [putB]
    by_cases g : k = a
    · rw [lookB, if_pos g] at h
      simp only [Option.some.injEq, Prod.mk.injEq] at h
      obtain ⟨rfl, rfl⟩ := h; rw [if_pos g]; rfl
    · obtain ⟨j, rfl, h'⟩ := lookB_cons g h
      rw [if_neg g, putB_at k v t j u h']; rfl
theorem putB_new (k : κ) (v : β) : ∀ (l : List (κ × β)) (i : Nat), lookB l k i = none → putB l k v = l ++ [(k, v)]
  | [], _, _ => rfl
  | (a, x) :: t, i, h => by
    rw [lookB] at h
    split at h
    · cases h
    · rename_i g; rw [putB, if_neg g, putB_new k v t (i + 1) h]; rfl
theorem delB_at (k : κ) : ∀ (l : List (κ × β)) (i : Nat) (u : β), lookB l k 0 = some (i, u) → delB l k = l.eraseIdx i
  | [], _, _, h => by cases h
  | (a, x) :: t, i, u, h => by
    rw [delB]
    by_cases g : k = a
    · rw [lookB, if_pos g] at h
      simp only [Option.some.injEq, Prod.mk.injEq] at h
      obtain ⟨rfl, rfl⟩ := h; rw [if_pos g]; rfl
    · obtain ⟨j, rfl, h'⟩ := lookB_cons g h
      rw [if_neg g, delB_at k t j u h']; rfl
theorem delB_none (k : κ) : ∀ (l : List (κ × β)) (i : Nat), lookB l k i = none → delB l k = l
  | [], _, _ => rfl
  | (a, x) :: t, i, h => by
    rw [lookB] at h
    split at h
    · cases h
    · rename_i g; rw [delB, if_neg g, delB_none k t (i + 1) h]
theorem getB_put (k : κ) (v : β) (k' : κ) : ∀ l : List (κ × β), getB (putB l k v) k' = if k' = k then some v else getB l k'
  | [] => by simp [putB, getB]
  | (a, u) :: t => by
    rw [putB]
    split
    · rename_i h; subst h; simp only [getB]; split <;> rfl
    · rename_i h
      simp only [getB]; rw [getB_put k v k' t]
      split
      · rename_i g; rw [if_neg (fun e => h (e.symm.trans g))]
      · rfl
theorem getB_mem {k : κ} : ∀ {l : List (κ × β)}, (getB l k).isSome = true ↔ k ∈ l.map (·.1)
  | [] => by simp [getB]
  | (a, u) :: t => by
    rw [getB, List.map_cons, List.mem_cons]
    split
    · simp [*]
    · rw [getB_mem]; simp [*]
theorem getB_none {k : κ} {l : List (κ × β)} (h : k ∉ l.map (·.1)) : getB l k = none := by
  cases e : getB l k with
  | none => rfl
  | some v => exact absurd (getB_mem.1 (by rw [e]; rfl)) h
theorem getB_del (k k' : κ) : ∀ l : List (κ × β), (l.map (·.1)).Nodup → getB (delB l k) k' = if k' = k then none else getB l k'
  | [], _ => by simp [delB, getB]
  | (a, u) :: t, hn => by
    have h2 := List.nodup_cons.1 hn
    rw [delB]
    split
    · rename_i h
      subst h
      simp only [getB]
      split
      · rename_i g; subst g; exact getB_none h2.1
      · rfl
    · rename_i h
      simp only [getB]; rw [getB_del k k' t h2.2]
      split
      · rename_i g; rw [if_neg (fun e => h (e.symm.trans g))]
      · rfl
theorem putB_keys (k : κ) (v : β) : ∀ l : List (κ × β), (putB l k v).map (·.1) = if k ∈ l.map (·.1) then l.map (·.1) else l.map (·.1) ++ [k]
  | [] => by simp [putB]
  | (a, u) :: t => by
    rw [putB]
    split
    · rename_i h; subst h; simp
    · rename_i h
      rw [List.map_cons, putB_keys k v t]
      simp only [List.map_cons, List.mem_cons, h, false_or]
      split <;> simp
theorem delB_sub (k : κ) : ∀ l : List (κ × β), (delB l k).Sublist l
  | [] => .slnil
  | (a, u) :: t => by
    rw [delB]
    split
    · exact List.sublist_cons_self _ _
    · exact (delB_sub k t).cons_cons _
end
/-- Keys of this type are told apart at once. -/
structure KeyAt {κ : Type} [DecidableEq κ] (P : Program) (kt : TypeId) (g : κ → Value) : Prop where
  inj : ∀ a b, g a = g b → a = b
  now : ∃ d, P.underlying kt = some d ∧ (∀ a, IsKey d (g a)) ∧ ∀ a b, Instr.sameNow d (g a) (g b) = some (decide (a = b))
  bits : ∀ a, Instr.sameBits 10000 (g a) (g a) = true
section
variable {κ β : Type}
/-- The entries of a map. -/
def MapV (g : κ → Value) (f : β → Value) (es : Array MapEntry) (c : Nat) (l : List (κ × β)) : Prop := es.toList.map (fun e : MapEntry => (e.key, e.val)) = l.map (fun p => (g p.1, f p.2)) ∧ Stamped es c
theorem MapV.nil {g : κ → Value} {f : β → Value} : MapV g f #[] 0 [] := ⟨rfl, stamped_empty 0⟩
theorem MapV.empty {g : κ → Value} {f : β → Value} (c : Nat) : MapV g f #[] c [] := ⟨rfl, stamped_empty c⟩
theorem MapV.keys {g : κ → Value} {f : β → Value} {es : Array MapEntry} {c : Nat} {l : List (κ × β)} (h : MapV g f es c l) : es.toList.map (·.key) = l.map (fun p => g p.1) := by
  have := congrArg (List.map (·.1)) h.1
  simpa [List.map_map, Function.comp_def] using this
theorem MapV.nodup {g : κ → Value} {f : β → Value} {es : Array MapEntry} {c : Nat} {l : List (κ × β)} (h : MapV g f es c l) : (l.map (·.1)).Nodup := by
  have h1 := h.2.2.2
  rw [h.keys] at h1
  refine List.pairwise_map.2 ((List.pairwise_map.1 h1).imp fun hne e => hne (by rw [e]))
theorem MapV.size {g : κ → Value} {f : β → Value} {es : Array MapEntry} {c : Nat} {l : List (κ × β)} (h : MapV g f es c l) : es.size = l.length := by
  have := congrArg List.length h.1; simpa using this
end
section
variable {κ β : Type} [DecidableEq κ]
theorem findNow_key {g : κ → Value} {f : β → Value} {d : TypeDesc} (hd : ∀ a b, Instr.sameNow d (g a) (g b) = some (decide (a = b))) (k : κ) : ∀ (es : List MapEntry) (l : List (κ × β)) (i : Nat), es.map (fun e : MapEntry => (e.key, e.val)) = l.map (fun p => (g p.1, f p.2)) →
    Instr.findNow d (g k) es i = some ((lookB l k i).map fun p => (p.1, f p.2))
  | [], [], i, _ => rfl
  | [], _ :: _, i, h => by simp at h
  | _ :: _, [], i, h => by simp at h
  | e :: es, (a, v) :: l, i, h => by
    simp only [List.map_cons, List.cons.injEq, Prod.mk.injEq] at h
    obtain ⟨⟨h1, h2⟩, h3⟩ := h
    unfold Instr.findNow
    rw [h1, hd]
    by_cases e : k = a
    · rw [decide_eq_true e]; simp [lookB, e, h2]
    · rw [decide_eq_false e]; simp only
      rw [findNow_key hd k es l (i + 1) h3]; simp [lookB, e]
end
theorem map_eraseB {α γ : Type} (f : α → γ) : ∀ (l : List α) (i : Nat), (l.eraseIdx i).map f = (l.map f).eraseIdx i
  | [], _ => rfl
  | _ :: _, 0 => rfl
  | x :: l, i + 1 => by rw [List.eraseIdx_cons_succ, List.map_cons, List.map_cons, List.eraseIdx_cons_succ, map_eraseB f l i]
def valB {β : Type} (f : β → Value) (z : Value) : Option β → Value
  | some v => f v
  | none => z
section ops
variable {P : Program} {ρ : Operand → Value} {E w : World} {ss : List (List Hp)} {K : Value → World → Prop} {dst : Option Tmp} {T : TypeId} {pos : String} {after : Array Edge} {g : Option (Nat × Bool)}
variable {κ β : Type} [DecidableEq κ] {gk : κ → Value} {f : β → Value}
theorem o_lookupB {x y : Operand} {t kt et : TypeId} {b : Nat} {es : Array MapEntry} {c : Nat} {l : List (κ × β)} {z : Value} {sz by_ : Nat} {k : κ} {ok : Bool} (ht : P.underlying t = some (.map kt et)) (hk : KeyAt P kt gk) (hz : TI P et z sz by_)
    (hx : ρ x = .map (some b)) (hy : ρ y = gk k) (H : Has E w ss) {L : List Hp} (hL : L ⊆ ss.flatten) (hb : L = [Hp.one b (.map es c)]) (he : MapV gk f es c l)
    (hK : K (if ok then .tuple #[valB f z (getB l k), .bool (getB l k).isSome] else valB f z (getB l k)) w) :
    OK P ⟨dst, .lookup t x y ok, T, pos, after, g⟩ ρ w K := by
  have hwb := H.at (hL (by rw [hb]; exact List.mem_singleton.2 rfl)) (Hp.one_at b (.map es c))
  obtain ⟨d, hd, hik, hnow⟩ := hk.now
  refine OK.val (run_v ?_) hK
  rw [hx, hy]
  have hf := run_findKey (P := P) (w := w) hd (findNow_key (f := f) hnow k es.toList l 0 he.1)
  obtain ⟨i, hi, hiz, _, _⟩ := hz
  have hc : (Instr.checkKey es.isEmpty 10000 kt (gk k)).run P w = .ok () w := run_checkKey hd (hik k) es.isEmpty 9999
  have hg : (getObj b).run P w = .ok (.map es c) w := by simp [getObj, Sem.run, hwb]
  have hv := lookB_val (β := β) k l 0
  cases hl : lookB l k 0 with
  | none =>
    rw [hl] at hf hv
    have hv : getB l k = none := hv.symm
    rw [hv]
    cases ok <;> simp [Instr.lookup, run_underlying ht, hg, hf, hc, zeroValue, typeInfo, hi, hiz, Result.andThen, valB]
  | some p =>
    rw [hl] at hf hv
    have hv : getB l k = some p.2 := hv.symm
    rw [hv]
    cases ok <;> simp [Instr.lookup, run_underlying ht, hg, hf, hc, Result.andThen, valB]
theorem o_lookupNil {x y : Operand} {t kt et : TypeId} {z : Value} {sz by_ : Nat} {k : κ} {ok : Bool} (ht : P.underlying t = some (.map kt et)) (hk : KeyAt P kt gk) (hz : TI P et z sz by_)
    (hx : ρ x = .map none) (hy : ρ y = gk k) (hK : K (if ok then .tuple #[z, .bool false] else z) w) : OK P ⟨dst, .lookup t x y ok, T, pos, after, g⟩ ρ w K := by
  obtain ⟨d, hd, hik, hnow⟩ := hk.now
  refine OK.val (run_v ?_) hK
  rw [hx, hy]
  have hf := run_findKey (P := P) (w := w) hd (l := []) (k := gk k) (a := none) rfl
  obtain ⟨i, hi, hiz, _, _⟩ := hz
  have hc : (Instr.checkKey true 10000 kt (gk k)).run P w = .ok () w := run_checkKey hd (hik k) true 9999
  cases ok <;> simp [Instr.lookup, run_underlying ht, hf, hc, zeroValue, typeInfo, hi, hiz, Result.andThen]
theorem o_mapUpdateB {x y u : Operand} {t kt et : TypeId} {b : Nat} {es : Array MapEntry} {c : Nat} {l : List (κ × β)} {v : β} {k : κ} (ht : P.underlying t = some (.map kt et)) (hk : KeyAt P kt gk)
    (hx : ρ x = .map (some b)) (hy : ρ y = gk k) (hu : ρ u = f v) (H : Has E w ([Hp.one b (.map es c)] :: ss)) (he : MapV gk f es c l)
    (hK : ∀ es' c' w', MapV gk f es' c' (putB l k v) → Has E w' ([Hp.one b (.map es' c')] :: ss) → K undef w') :
    OK P ⟨dst, .mapUpdate t x y u, T, pos, after, g⟩ ρ w K := by
  have hwb : w.heap[b]? = some (.map es c) := H.at (h := Hp.one b (.map es c)) (by simp) (Hp.one_at _ _)
  obtain ⟨d, hd, hik, hnow⟩ := hk.now
  have hf := run_findKey (P := P) (w := w) hd (findNow_key (f := f) hnow k es.toList l 0 he.1)
  have hc : (Instr.checkKey false 10000 kt (gk k)).run P w = .ok () w := run_checkKey hd (hik k) false 9999
  have hg : (getObj b).run P w = .ok (.map es c) w := by simp [getObj, Sem.run, hwb]
  have hs : ∀ o, (setObj b o).run P w = .ok () { w with heap := w.heap.setIfInBounds b o } := fun o => run_setObj_map o hwb
  cases hl : lookB l k 0 with
  | none =>
    rw [hl] at hf
    refine OK.skip (w' := { w with heap := w.heap.setIfInBounds b (.map (es.push ⟨gk k, f v, c⟩) (c + 1)) }) (run_u ?_) (hK _ _ _ ⟨?_, stamped_push he.2 ?_⟩ H.setMap)
    · rw [hx, hy, hu]; simp [Instr.mapUpdate, run_underlying ht, hg, hf, hc, hs, Result.andThen]
    · rw [putB_new k v l 0 hl]; simp [he.1]
    · intro x hx e
      have h1 : x.key ∈ es.toList.map (·.key) := List.mem_map.2 ⟨x, hx, rfl⟩
      rw [he.keys, e] at h1
      obtain ⟨p, hp, hpe⟩ := List.mem_map.1 h1
      have hpk := hk.inj _ _ hpe
      have h2 := (getB_mem (k := k) (l := l)).2 (List.mem_map.2 ⟨p, hp, hpk⟩)
      rw [← lookB_val k l 0, hl] at h2; cases h2
  | some p =>
    obtain ⟨i, v0⟩ := p
    rw [hl] at hf
    have hi := lookB_get k l i v0 hl
    have hes : ∃ e, es[i]? = some e ∧ e.key = gk k := by
      have h1 : (es.toList.map (fun e : MapEntry => (e.key, e.val)))[i]? = some (gk k, f v0) := by rw [he.1, List.getElem?_map, hi]; rfl
      rw [List.getElem?_map, Option.map_eq_some_iff] at h1
      obtain ⟨e, h2, h3⟩ := h1
      exact ⟨e, by simpa using h2, congrArg Prod.fst h3⟩
    obtain ⟨e, h2, h3⟩ := hes
    have hst : (Instr.keyThatStays (gk k) (gk k)).run P w = .ok (gk k) w := by simp [Instr.keyThatStays, hk.bits k]
    refine OK.skip (w' := { w with heap := w.heap.setIfInBounds b (.map (es.modify i fun e => { e with key := gk k, val := f v }) c) }) (run_u ?_) (hK _ _ _ ⟨?_, stamped_modify he.2 i (fun e => { e with key := gk k, val := f v }) (fun _ _ => rfl) (fun e' _ h => ?_)⟩ H.setMap)
    · rw [hx, hy, hu]; simp [Instr.mapUpdate, run_underlying ht, hg, hf, hc, hs, Result.andThen, h2, h3, hst]
    · rw [putB_at k v l i v0 hl, Array.toList_modify, modify_map (fun e : MapEntry => { e with key := gk k, val := f v }) (fun e : MapEntry => (e.key, e.val)) (gk k, f v) (fun _ => rfl), he.1, List.map_set]
    · rw [h2] at h; cases h; exact h3.symm
theorem o_delete {x y : Operand} {t kt et t2 : TypeId} {b : Nat} {es : Array MapEntry} {c : Nat} {l : List (κ × β)} {k : κ} (ht : P.underlying t = some (.map kt et)) (hk : KeyAt P kt gk)
    (hx : ρ x = .map (some b)) (hy : ρ y = gk k) (H : Has E w ([Hp.one b (.map es c)] :: ss)) (he : MapV gk f es c l)
    (hK : ∀ es' c' w', MapV gk f es' c' (delB l k) → Has E w' ([Hp.one b (.map es' c')] :: ss) → K (.tuple #[]) w') :
    OK P ⟨dst, .call ⟨.builtin .delete, #[x, y], #[t, t2]⟩, T, pos, after, g⟩ ρ w K := by
  have hwb : w.heap[b]? = some (.map es c) := H.at (h := Hp.one b (.map es c)) (by simp) (Hp.one_at _ _)
  obtain ⟨d, hd, hik, hnow⟩ := hk.now
  have hf := run_findKey (P := P) (w := w) hd (findNow_key (f := f) hnow k es.toList l 0 he.1)
  have hc : (Instr.checkKey es.isEmpty 10000 kt (gk k)).run P w = .ok () w := run_checkKey hd (hik k) es.isEmpty 9999
  have hg : (getObj b).run P w = .ok (.map es c) w := by simp [getObj, Sem.run, hwb]
  have hs : ∀ o, (setObj b o).run P w = .ok () { w with heap := w.heap.setIfInBounds b o } := fun o => run_setObj_map o hwb
  cases hl : lookB l k 0 with
  | none =>
    rw [hl] at hf
    refine o_call_builtin (v := .tuple #[]) (w' := { w with heap := w.heap.setIfInBounds b (.map es c) }) ?_ (hK _ _ _ (by rw [delB_none k l 0 hl]; exact he) H.setMap)
    simp [hx, hy, builtin, Builtin.delete_, run_underlying ht, hg, hf, hc, hs, Result.andThen]
  | some p =>
    obtain ⟨i, v0⟩ := p
    rw [hl] at hf
    have hi := lookB_get k l i v0 hl
    have hlt : i < es.size := by rw [he.size]; exact (List.getElem?_eq_some_iff.1 hi).1
    refine o_call_builtin (v := .tuple #[]) (w' := { w with heap := w.heap.setIfInBounds b (.map (es.eraseIdxIfInBounds i) c) }) ?_ (hK _ _ _ ⟨?_, stamped_erase he.2 i⟩ H.setMap)
    · simp [hx, hy, builtin, Builtin.delete_, run_underlying ht, hg, hf, hc, hs, Result.andThen]
    · rw [delB_at k l i v0 hl, map_eraseB, ← he.1]
      unfold Array.eraseIdxIfInBounds
      rw [dif_pos hlt, Array.toList_eraseIdx, map_eraseB]
end ops
section ops
variable {P : Program} {ρ : Operand → Value} {E w : World} {ss : List (List Hp)} {K : Value → World → Prop} {dst : Option Tmp} {T : TypeId} {pos : String} {after : Array Edge} {g : Option (Nat × Bool)}
variable {κ β : Type} {gk : κ → Value} {f : β → Value}
theorem o_clearMap {x : Operand} {t kt et : TypeId} {b : Nat} {es : Array MapEntry} {c : Nat} {l : List (κ × β)} (ht : P.underlying t = some (.map kt et))
    (hx : ρ x = .map (some b)) (H : Has E w ([Hp.one b (.map es c)] :: ss)) (he : MapV gk f es c l)
    (hK : ∀ es' c' w', MapV gk f es' c' ([] : List (κ × β)) → Has E w' ([Hp.one b (.map es' c')] :: ss) → K (.tuple #[]) w') :
    OK P ⟨dst, .call ⟨.builtin .clear, #[x], #[t]⟩, T, pos, after, g⟩ ρ w K := by
  have hwb : w.heap[b]? = some (.map es c) := H.at (h := Hp.one b (.map es c)) (by simp) (Hp.one_at _ _)
  have hg : (getObj b).run P w = .ok (.map es c) w := by simp [getObj, Sem.run, hwb]
  have hs : ∀ o, (setObj b o).run P w = .ok () { w with heap := w.heap.setIfInBounds b o } := fun o => run_setObj_map o hwb
  refine o_call_builtin (v := .tuple #[]) (w' := { w with heap := w.heap.setIfInBounds b (.map #[] c) }) ?_ (hK _ _ _ (MapV.empty c) H.setMap)
  simp [hx, builtin, Builtin.clear_, run_underlying ht, hg, hs, Result.andThen]
theorem o_lenMap {x : Operand} {t kt et : TypeId} {b : Nat} {es : Array MapEntry} {c : Nat} {l : List (κ × β)} (ht : P.underlying t = some (.map kt et))
    (hx : ρ x = .map (some b)) (H : Has E w ss) {L : List Hp} (hL : L ⊆ ss.flatten) (hb : L = [Hp.one b (.map es c)]) (he : MapV gk f es c l) (hK : K (.int .i64 l.length) w) :
    OK P ⟨dst, .call ⟨.builtin .len, #[x], #[t]⟩, T, pos, after, g⟩ ρ w K := by
  have hwb := H.at (hL (by rw [hb]; exact List.mem_singleton.2 rfl)) (Hp.one_at b (.map es c))
  have hg : (getObj b).run P w = .ok (.map es c) w := by simp [getObj, Sem.run, hwb]
  refine o_call_builtin (w' := w) ?_ hK
  simp [hx, builtin, Builtin.len_, run_underlying ht, hg, Result.andThen, goInt, he.size]
end ops
section ops
variable {P : Program} {ρ : Operand → Value} {E w : World} {ss : List (List Hp)} {K : Value → World → Prop} {dst : Option Tmp} {T : TypeId} {pos : String} {after : Array Edge} {g : Option (Nat × Bool)}
variable {κ : Type} [DecidableEq κ] {gk : κ → Value}
theorem valB_S (o : Option (List UInt8)) : valB sV (S []) o = S (o.getD []) := by cases o <;> rfl
theorem o_lookupSk {x y : Operand} {t kt et : TypeId} {b : Nat} {es : Array MapEntry} {c : Nat} {l : List (κ × List UInt8)} {sz by_ : Nat} {k : κ} (ht : P.underlying t = some (.map kt et)) (hk : KeyAt P kt gk) (hz : TI P et (S []) sz by_)
    (hx : ρ x = .map (some b)) (hy : ρ y = gk k) (H : Has E w ss) {L : List Hp} (hL : L ⊆ ss.flatten) (hb : L = [Hp.one b (.map es c)]) (he : MapV gk sV es c l)
    (hK : K (.tuple #[S ((getB l k).getD []), .bool (getB l k).isSome]) w) : OK P ⟨dst, .lookup t x y true, T, pos, after, g⟩ ρ w K :=
  o_lookupB (f := sV) ht hk hz hx hy H hL hb he (by rw [if_pos rfl, valB_S]; exact hK)
theorem o_lookupS {x y : Operand} {t kt et : TypeId} {b : Nat} {es : Array MapEntry} {c : Nat} {l : List (κ × List UInt8)} {sz by_ : Nat} {k : κ} (ht : P.underlying t = some (.map kt et)) (hk : KeyAt P kt gk) (hz : TI P et (S []) sz by_)
    (hx : ρ x = .map (some b)) (hy : ρ y = gk k) (H : Has E w ss) {L : List Hp} (hL : L ⊆ ss.flatten) (hb : L = [Hp.one b (.map es c)]) (he : MapV gk sV es c l)
    (hK : K (S ((getB l k).getD [])) w) : OK P ⟨dst, .lookup t x y false, T, pos, after, g⟩ ρ w K :=
  o_lookupB (f := sV) ht hk hz hx hy H hL hb he (by rw [if_neg (by decide), valB_S]; exact hK)
end ops
theorem key_int {P : Program} {kt : TypeId} (h : P.underlying kt = some (.int .i64)) : KeyAt P kt iV :=
  ⟨fun a b e => by simpa [iV] using e, ⟨_, h, fun _ => rfl, fun a b => by simp only [iV, Instr.sameNow, if_true]; rfl⟩, fun a => by simp [iV, Instr.sameBits]⟩
theorem bytes_beq (a b : List UInt8) : ((⟨a.toArray⟩ : ByteArray) == ⟨b.toArray⟩) = decide (a = b) := by
  show (a.toArray == b.toArray) = _
  by_cases e : a = b
  · subst e; simp
  · simp [e]
theorem key_string {P : Program} {kt : TypeId} (h : P.underlying kt = some .string) : KeyAt P kt S :=
  ⟨fun a b e => by simpa [S] using e, ⟨_, h, fun _ => trivial, fun a b => by simp only [S, Instr.sameNow, bytes_beq]⟩, fun a => by simp only [S, Instr.sameBits, bytes_beq, decide_true]⟩
end Go.Q
namespace Go.Q
theorem app_sub' {L M R : List Hp} (h : L ⊆ R) (k : M ⊆ R) : (L ++ M) ⊆ R := fun _ hx => (List.mem_append.1 hx).elim (fun g => h g) (fun g => k g)
theorem Has.mid {E w : World} {a b c : List Hp} {ss : List (List Hp)} (H : Has E w ((a ++ (b ++ c)) :: ss)) : Has E w (b :: (a ++ c) :: ss) := by
  unfold Has at *
  refine Has0.perm H ?_
  simp only [List.flatten_cons, List.append_assoc]
  exact List.perm_append_comm_assoc b a _
theorem Has.mid' {E w : World} {a b c : List Hp} {ss : List (List Hp)} (H : Has E w (b :: (a ++ c) :: ss)) : Has E w ((a ++ (b ++ c)) :: ss) := by
  unfold Has at *
  refine Has0.perm H ?_
  simp only [List.flatten_cons, List.append_assoc]
  exact List.perm_append_comm_assoc a b _
def bpV (b : Nat) : Value := .pointer (some ⟨b, 0, none⟩)
/- An object's heaplets as one, and told apart. -/
theorem Has.cl2 {E w : World} {a b : List Hp} {ss : List (List Hp)} (H : Has E w (a :: b :: ss)) : Has E w ((a ++ b) :: ss) := by
  unfold Has at *; simpa only [List.flatten_cons, List.append_assoc] using H
theorem Has.op2 {E w : World} {a b : List Hp} {ss : List (List Hp)} (H : Has E w ((a ++ b) :: ss)) : Has E w (a :: b :: ss) := by
  unfold Has at *; simpa only [List.flatten_cons, List.append_assoc] using H
theorem Has.cl3 {E w : World} {a b c : List Hp} {ss : List (List Hp)} (H : Has E w (a :: b :: c :: ss)) : Has E w ((a ++ (b ++ c)) :: ss) := by
  unfold Has at *; simpa only [List.flatten_cons, List.append_assoc] using H
theorem Has.op3 {E w : World} {a b c : List Hp} {ss : List (List Hp)} (H : Has E w ((a ++ (b ++ c)) :: ss)) : Has E w (a :: b :: c :: ss) := by
  unfold Has at *; simpa only [List.flatten_cons, List.append_assoc] using H
theorem Has.cl4 {E w : World} {a b c d : List Hp} {ss : List (List Hp)} (H : Has E w (a :: b :: c :: d :: ss)) : Has E w ((a ++ (b ++ (c ++ d))) :: ss) := by
  unfold Has at *; simpa only [List.flatten_cons, List.append_assoc] using H
theorem Has.op4 {E w : World} {a b c d : List Hp} {ss : List (List Hp)} (H : Has E w ((a ++ (b ++ (c ++ d))) :: ss)) : Has E w (a :: b :: c :: d :: ss) := by
  unfold Has at *; simpa only [List.flatten_cons, List.append_assoc] using H
theorem Has.cl5 {E w : World} {a b c d e : List Hp} {ss : List (List Hp)} (H : Has E w (a :: b :: c :: d :: e :: ss)) : Has E w ((a ++ (b ++ (c ++ (d ++ e)))) :: ss) := by
  unfold Has at *; simpa only [List.flatten_cons, List.append_assoc] using H
theorem Has.op5 {E w : World} {a b c d e : List Hp} {ss : List (List Hp)} (H : Has E w ((a ++ (b ++ (c ++ (d ++ e)))) :: ss)) : Has E w (a :: b :: c :: d :: e :: ss) := by
  unfold Has at *; simpa only [List.flatten_cons, List.append_assoc] using H
theorem Has.cl6 {E w : World} {a b c d e f : List Hp} {ss : List (List Hp)} (H : Has E w (a :: b :: c :: d :: e :: f :: ss)) : Has E w ((a ++ (b ++ (c ++ (d ++ (e ++ f))))) :: ss) := by
  unfold Has at *; simpa only [List.flatten_cons, List.append_assoc] using H
theorem Has.op6 {E w : World} {a b c d e f : List Hp} {ss : List (List Hp)} (H : Has E w ((a ++ (b ++ (c ++ (d ++ (e ++ f))))) :: ss)) : Has E w (a :: b :: c :: d :: e :: f :: ss) := by
  unfold Has at *; simpa only [List.flatten_cons, List.append_assoc] using H
theorem Has.cl7 {E w : World} {a b c d e f g : List Hp} {ss : List (List Hp)} (H : Has E w (a :: b :: c :: d :: e :: f :: g :: ss)) : Has E w ((a ++ (b ++ (c ++ (d ++ (e ++ (f ++ g)))))) :: ss) := by
  unfold Has at *; simpa only [List.flatten_cons, List.append_assoc] using H
theorem Has.op7 {E w : World} {a b c d e f g : List Hp} {ss : List (List Hp)} (H : Has E w ((a ++ (b ++ (c ++ (d ++ (e ++ (f ++ g)))))) :: ss)) : Has E w (a :: b :: c :: d :: e :: f :: g :: ss) := by
  unfold Has at *; simpa only [List.flatten_cons, List.append_assoc] using H
structure DEnt (κ σ : Type) where
  key : κ
  b : Nat
  sg : List Hp
  val : σ
section
variable {κ σ : Type} [DecidableEq κ]
/-- Where each object is. -/
def wher (L : List (DEnt κ σ)) : List (κ × Nat) := L.map fun x => (x.key, x.b)
def what (L : List (DEnt κ σ)) : List (κ × σ) := L.map fun x => (x.key, x.val)
def DirAt (gk : κ → Value) (At : Nat → List Hp → σ → Prop) (mb : Nat) (sg : List Hp) (t : List (κ × σ)) : Prop :=
  ∃ es c L, sg = [Hp.one mb (.map es c)] ++ L.flatMap (·.sg) ∧ MapV gk bpV es c (wher L) ∧ (∀ x ∈ L, At x.b x.sg x.val) ∧ what L = t
def DirRd (gk : κ → Value) (Rd : List Hp → Nat → σ → Prop) (R : List Hp) (mb : Nat) (t : List (κ × σ)) : Prop :=
  ∃ es c L, Hp.one mb (.map es c) ∈ R ∧ MapV gk bpV es c (wher L) ∧ (∀ x ∈ L, Rd R x.b x.val) ∧ what L = t
/-- All but the object of one key, whose block is b. -/
def DirHole (gk : κ → Value) (At : Nat → List Hp → σ → Prop) (mb : Nat) (k : κ) (b : Nat) (sr : List Hp) (t : List (κ × σ)) : Prop :=
  ∃ es c A B v sx, sr = [Hp.one mb (.map es c)] ++ (A.flatMap (·.sg) ++ B.flatMap (·.sg)) ∧ MapV gk bpV es c (wher (A ++ ⟨k, b, sx, v⟩ :: B)) ∧ (∀ x ∈ A ++ B, At x.b x.sg x.val) ∧ what (A ++ ⟨k, b, sx, v⟩ :: B) = t
omit [DecidableEq κ] in
theorem DirRd.mono {gk : κ → Value} {Rd : List Hp → Nat → σ → Prop} {R R' : List Hp} {mb : Nat} {t : List (κ × σ)} (hm : ∀ {R R' : List Hp} {b : Nat} {v : σ}, Rd R b v → R ⊆ R' → Rd R' b v) (h : DirRd gk Rd R mb t) (hs : R ⊆ R') : DirRd gk Rd R' mb t := by
  obtain ⟨es, c, L, h1, h2, h3, h4⟩ := h
  exact ⟨es, c, L, hs h1, h2, fun x hx => hm (h3 x hx) hs, h4⟩
omit [DecidableEq κ] in
theorem DirAt.rd {gk : κ → Value} {At : Nat → List Hp → σ → Prop} {Rd : List Hp → Nat → σ → Prop} {mb : Nat} {sg : List Hp} {t : List (κ × σ)} (hm : ∀ {R R' : List Hp} {b : Nat} {v : σ}, Rd R b v → R ⊆ R' → Rd R' b v)
    (ha : ∀ {b : Nat} {sg : List Hp} {v : σ}, At b sg v → Rd sg b v) (h : DirAt gk At mb sg t) : DirRd gk Rd sg mb t := by
  obtain ⟨es, c, L, rfl, h2, h3, h4⟩ := h
  exact ⟨es, c, L, by simp, h2, fun x hx => hm (ha (h3 x hx)) fun y hy => List.mem_append_right _ (List.mem_flatMap.2 ⟨x, hx, hy⟩), h4⟩
omit [DecidableEq κ] in
theorem DirAt.new {gk : κ → Value} {At : Nat → List Hp → σ → Prop} {mb : Nat} : DirAt gk At mb [Hp.one mb (.map #[] 0)] ([] : List (κ × σ)) := ⟨#[], 0, [], by simp, MapV.nil, by simp, rfl⟩
theorem wher_get {k : κ} : ∀ {L : List (DEnt κ σ)} {b : Nat}, getB (wher L) k = some b → ∃ A v sx B, L = A ++ ⟨k, b, sx, v⟩ :: B ∧ getB (what L) k = some v
  | [], _, h => by simp [wher, getB] at h
  | x :: L, b, h => by
    rw [wher, List.map_cons, getB] at h
    by_cases e : k = x.key
    · rw [if_pos e] at h
      cases h
      refine ⟨[], x.val, x.sg, L, ?_, ?_⟩
      · rw [e]; rfl
      · rw [what, List.map_cons, getB, if_pos e]
    · rw [if_neg e] at h
      obtain ⟨A, v, sx, B, rfl, hv⟩ := wher_get (L := L) h
      refine ⟨x :: A, v, sx, B, rfl, ?_⟩
      rw [what, List.map_cons, getB, if_neg e]; exact hv
theorem wher_none {k : κ} : ∀ {L : List (DEnt κ σ)}, getB (wher L) k = none → getB (what L) k = none
  | [], _ => rfl
  | x :: L, h => by
    rw [wher, List.map_cons, getB] at h
    rw [what, List.map_cons, getB]
    split at h
    · cases h
    · rw [if_neg (by assumption)]; exact wher_none h
theorem put_mid {β : Type} {k : κ} {u v : β} : ∀ {A B : List (κ × β)}, k ∉ A.map (·.1) → putB (A ++ (k, u) :: B) k v = A ++ (k, v) :: B
  | [], B, _ => by simp [putB]
  | (a, x) :: A, B, h => by
    rw [List.map_cons, List.mem_cons, not_or] at h
    rw [List.cons_append, putB, if_neg h.1, put_mid h.2]; rfl
omit [DecidableEq κ] in
theorem what_app (A B : List (DEnt κ σ)) : what (A ++ B) = what A ++ what B := by simp [what]
omit [DecidableEq κ] in
theorem wher_app (A B : List (DEnt κ σ)) : wher (A ++ B) = wher A ++ wher B := by simp [wher]
omit [DecidableEq κ] in
theorem what_keys (L : List (DEnt κ σ)) : (what L).map (·.1) = (wher L).map (·.1) := by simp [what, wher, Function.comp_def]
omit [DecidableEq κ] in
theorem mid_notin {β : Type} {k : κ} {u : β} {A B : List (κ × β)} (h : ((A ++ (k, u) :: B).map (·.1)).Nodup) : k ∉ A.map (·.1) := by
  rw [List.map_append, List.nodup_append] at h
  intro g
  exact h.2.2 k g k (by simp) rfl
omit [DecidableEq κ] in
theorem DirAt.nodup {gk : κ → Value} {At : Nat → List Hp → σ → Prop} {mb : Nat} {sg : List Hp} {t : List (κ × σ)} (h : DirAt gk At mb sg t) : (t.map (·.1)).Nodup := by
  obtain ⟨es, c, L, _, h2, _, rfl⟩ := h
  rw [what_keys]; exact h2.nodup
omit [DecidableEq κ] in
theorem DirRd.nodup {gk : κ → Value} {Rd : List Hp → Nat → σ → Prop} {R : List Hp} {mb : Nat} {t : List (κ × σ)} (h : DirRd gk Rd R mb t) : (t.map (·.1)).Nodup := by
  obtain ⟨es, c, L, _, h2, _, rfl⟩ := h
  rw [what_keys]; exact h2.nodup
/-- The object is put back, changed or not. -/
theorem DirHole.close {gk : κ → Value} {At : Nat → List Hp → σ → Prop} {mb b : Nat} {k : κ} {sx sr : List Hp} {t : List (κ × σ)} {v : σ} {E w : World} {ss : List (List Hp)} (h : DirHole gk At mb k b sr t) (hx : At b sx v)
    (H : Has E w (sx :: sr :: ss)) : ∃ sg, DirAt gk At mb sg (putB t k v) ∧ Has E w (sg :: ss) := by
  obtain ⟨es, c, A, B, v0, sx0, rfl, h2, h3, rfl⟩ := h
  have hn : ((wher (A ++ ⟨k, b, sx0, v0⟩ :: B)).map (·.1)).Nodup := h2.nodup
  have hw : wher (A ++ ⟨k, b, sx, v⟩ :: B) = wher (A ++ ⟨k, b, sx0, v0⟩ :: B) := by simp [wher]
  refine ⟨_, ⟨es, c, A ++ ⟨k, b, sx, v⟩ :: B, rfl, by rw [hw]; exact h2, ?_, ?_⟩, ?_⟩
  · intro x hx'
    rcases List.mem_append.1 hx' with g | g
    · exact h3 x (List.mem_append_left _ g)
    · rcases List.mem_cons.1 g with rfl | g
      · exact hx
      · exact h3 x (List.mem_append_right _ g)
  · have e1 : what (A ++ ⟨k, b, sx0, v0⟩ :: B) = what A ++ (k, v0) :: what B := by simp [what]
    have e2 : what (A ++ ⟨k, b, sx, v⟩ :: B) = what A ++ (k, v) :: what B := by simp [what]
    rw [e1, e2, put_mid]
    refine mid_notin (u := v0) (B := what B) ?_
    rw [← e1, what_keys]; exact hn
  · have H' : Has E w (sx :: (([Hp.one mb (.map es c)] ++ A.flatMap (·.sg)) ++ B.flatMap (·.sg)) :: ss) := by rw [List.append_assoc]; exact H
    have := H'.mid'
    rw [List.append_assoc] at this
    simpa [List.flatMap_append] using this
theorem DirHole.get {gk : κ → Value} {At : Nat → List Hp → σ → Prop} {mb b : Nat} {k : κ} {sr : List Hp} {t : List (κ × σ)} (h : DirHole gk At mb k b sr t) : (getB t k).isSome = true := by
  obtain ⟨es, c, A, B, v0, sx0, rfl, h2, h3, rfl⟩ := h
  rw [getB_mem]; simp [what]
section ops
variable {P : Program} {ρ : Operand → Value} {E w : World} {ss : List (List Hp)} {K : Value → World → Prop} {dst : Option Tmp} {T : TypeId} {pos : String} {after : Array Edge} {g : Option (Nat × Bool)} {gk : κ → Value} {At : Nat → List Hp → σ → Prop} {Rd : List Hp → Nat → σ → Prop}
theorem valB_bp (o : Option Nat) : valB bpV (.pointer none) o = .pointer (o.map fun b => ⟨b, 0, none⟩) := by cases o <;> rfl
/-- A lookup that is read only. -/
theorem o_dirRd {x y : Operand} {t kt et : TypeId} {mb : Nat} {l : List (κ × σ)} {by_ : Nat} {k : κ} {R : List Hp} (ht : P.underlying t = some (.map kt et)) (hk : KeyAt P kt gk) (hz : TI P et (.pointer none) 1 by_)
    (hx : ρ x = .map (some mb)) (hy : ρ y = gk k) (hd : DirRd gk Rd R mb l) (H : Has E w ss) (hR : R ⊆ ss.flatten)
    (hN : getB l k = none → K (.pointer none) w) (hS : ∀ b v, getB l k = some v → Rd R b v → K (.pointer (some ⟨b, 0, none⟩)) w) :
    OK P ⟨dst, .lookup t x y false, T, pos, after, g⟩ ρ w K := by
  obtain ⟨es, c, L, h1, h2, h3, rfl⟩ := hd
  refine o_lookupB (L := [Hp.one mb (.map es c)]) ht hk hz hx hy H (fun z hz => by rw [List.mem_singleton.1 hz]; exact hR h1) rfl h2 ?_
  simp only [Bool.false_eq_true, if_false]
  cases hg : getB (wher L) k with
  | none => exact hN (wher_none hg)
  | some b =>
    obtain ⟨A, v, sx, B, e, hv⟩ := wher_get hg
    exact hS b v hv (h3 ⟨k, b, sx, v⟩ (by rw [e]; simp))
theorem o_dirRdOk {x y : Operand} {t kt et : TypeId} {mb : Nat} {l : List (κ × σ)} {by_ : Nat} {k : κ} {R : List Hp} (ht : P.underlying t = some (.map kt et)) (hk : KeyAt P kt gk) (hz : TI P et (.pointer none) 1 by_)
    (hx : ρ x = .map (some mb)) (hy : ρ y = gk k) (hd : DirRd gk Rd R mb l) (H : Has E w ss) (hR : R ⊆ ss.flatten)
    (hN : getB l k = none → K (.tuple #[.pointer none, .bool false]) w) (hS : ∀ b v, getB l k = some v → Rd R b v → K (.tuple #[.pointer (some ⟨b, 0, none⟩), .bool true]) w) :
    OK P ⟨dst, .lookup t x y true, T, pos, after, g⟩ ρ w K := by
  obtain ⟨es, c, L, h1, h2, h3, rfl⟩ := hd
  refine o_lookupB (L := [Hp.one mb (.map es c)]) ht hk hz hx hy H (fun z hz => by rw [List.mem_singleton.1 hz]; exact hR h1) rfl h2 ?_
  simp only [if_true]
  cases hg : getB (wher L) k with
  | none => exact hN (wher_none hg)
  | some b =>
    obtain ⟨A, v, sx, B, e, hv⟩ := wher_get hg
    exact hS b v hv (h3 ⟨k, b, sx, v⟩ (by rw [e]; simp))
/-- A lookup that takes the object out. -/
theorem o_dirOut {x y : Operand} {t kt et : TypeId} {mb : Nat} {l : List (κ × σ)} {by_ : Nat} {k : κ} {sg : List Hp} (ht : P.underlying t = some (.map kt et)) (hk : KeyAt P kt gk) (hz : TI P et (.pointer none) 1 by_)
    (hx : ρ x = .map (some mb)) (hy : ρ y = gk k) (hd : DirAt gk At mb sg l) (H : Has E w (sg :: ss))
    (hN : getB l k = none → K (.pointer none) w) (hS : ∀ b v sx sr, getB l k = some v → At b sx v → DirHole gk At mb k b sr l → Has E w (sx :: sr :: ss) → K (.pointer (some ⟨b, 0, none⟩)) w) :
    OK P ⟨dst, .lookup t x y false, T, pos, after, g⟩ ρ w K := by
  obtain ⟨es, c, L, rfl, h2, h3, rfl⟩ := hd
  refine o_lookupB (L := [Hp.one mb (.map es c)]) ht hk hz hx hy H (fun z hz => by rw [List.mem_singleton.1 hz]; simp) rfl h2 ?_
  simp only [Bool.false_eq_true, if_false]
  cases hg : getB (wher L) k with
  | none => exact hN (wher_none hg)
  | some b =>
    obtain ⟨A, v, sx, B, e, hv⟩ := wher_get hg
    subst e
    refine hS b v sx _ hv (h3 ⟨k, b, sx, v⟩ (by simp)) ⟨es, c, A, B, v, sx, rfl, h2, fun y hy => h3 y ?_, rfl⟩ ?_
    · rcases List.mem_append.1 hy with g | g
      · exact List.mem_append_left _ g
      · exact List.mem_append_right _ (List.mem_cons_of_mem _ g)
    · have H' : Has E w ((([Hp.one mb (.map es c)] ++ A.flatMap (·.sg)) ++ (sx ++ B.flatMap (·.sg))) :: ss) := by
        simpa [List.flatMap_append, List.append_assoc] using H
      have := H'.mid
      rw [List.append_assoc] at this
      exact this
/-- An object is put under a new key: it stays outside. -/
theorem o_dirPut {x y u : Operand} {t kt et : TypeId} {mb b : Nat} {l : List (κ × σ)} {k : κ} {sg sx : List Hp} {v : σ} (ht : P.underlying t = some (.map kt et)) (hk : KeyAt P kt gk)
    (hx : ρ x = .map (some mb)) (hy : ρ y = gk k) (hu : ρ u = .pointer (some ⟨b, 0, none⟩)) (hd : DirAt gk At mb sg l) (hn : getB l k = none) (hv : At b sx v) (H : Has E w (sg :: sx :: ss))
    (hK : ∀ sr w', DirHole gk At mb k b sr (putB l k v) → Has E w' (sx :: sr :: ss) → K undef w') : OK P ⟨dst, .mapUpdate t x y u, T, pos, after, g⟩ ρ w K := by
  obtain ⟨es, c, L, rfl, h2, h3, rfl⟩ := hd
  have hnk : k ∉ (what L).map (·.1) := fun g => by have := getB_mem.2 g; rw [hn] at this; cases this
  have hnw : getB (wher L) k = none := getB_none (by rw [← what_keys]; exact hnk)
  have hlw : ∀ {β : Type} {m : List (κ × β)} {z : β}, k ∉ m.map (·.1) → putB m k z = m ++ [(k, z)] := fun {β m z} hm => by
    induction m with
    | nil => rfl
    | cons p m ih =>
      obtain ⟨a, y⟩ := p
      rw [List.map_cons, List.mem_cons, not_or] at hm
      rw [putB, if_neg hm.1, ih hm.2]; rfl
  refine o_mapUpdateB (f := bpV) (v := b) ht hk hx hy hu (ss := L.flatMap (·.sg) :: sx :: ss) H.cut h2 fun es' c' w' he hH => ?_
  rw [hlw (by rw [← what_keys]; exact hnk)] at he
  refine hK ([Hp.one mb (.map es' c')] ++ (L.flatMap (·.sg) ++ ([] : List (DEnt κ σ)).flatMap (·.sg))) w' ⟨es', c', L, [], v, sx, rfl, by simpa [wher] using he, by simpa using h3, ?_⟩ ?_
  · rw [hlw hnk]; simp [what]
  · have h4 := hH.front 2 rfl
    have h5 : Has E w' (sx :: ([Hp.one mb (.map es' c')] ++ L.flatMap (·.sg)) :: ss) := by
      have h6 : Has E w' (sx :: [Hp.one mb (.map es' c')] :: L.flatMap (·.sg) :: ss) := h4
      unfold Has at *; simpa using h6
    simpa using h5
/-- A key is taken away; its object stays where it is, in nobody's sight. -/
theorem o_dirDel {x y : Operand} {t kt et t2 : TypeId} {mb : Nat} {l : List (κ × σ)} {k : κ} {sg : List Hp} (ht : P.underlying t = some (.map kt et)) (hk : KeyAt P kt gk)
    (hx : ρ x = .map (some mb)) (hy : ρ y = gk k) (hd : DirAt gk At mb sg l) (H : Has E w (sg :: ss))
    (hK : ∀ sg' w', DirAt gk At mb sg' (delB l k) → Has E w' (sg' :: ss) → K (.tuple #[]) w') :
    OK P ⟨dst, .call ⟨.builtin .delete, #[x, y], #[t, t2]⟩, T, pos, after, g⟩ ρ w K := by
  obtain ⟨es, c, L, rfl, h2, h3, rfl⟩ := hd
  refine o_delete ht hk hx hy (ss := L.flatMap (·.sg) :: ss) H.cut h2 fun es' c' w' he hH => ?_
  obtain ⟨L', hs, hw, ht'⟩ : ∃ L' : List (DEnt κ σ), L'.Sublist L ∧ wher L' = delB (wher L) k ∧ what L' = delB (what L) k := by
    clear h2 h3 H he hH hK
    induction L with
    | nil => exact ⟨[], .slnil, rfl, rfl⟩
    | cons z L ih =>
      by_cases e : k = z.key
      · exact ⟨L, List.sublist_cons_self _ _, by rw [wher, wher, List.map_cons, delB, if_pos e], by rw [what, what, List.map_cons, delB, if_pos e]⟩
      · obtain ⟨L', h1, h2, h3⟩ := ih
        refine ⟨z :: L', h1.cons_cons z, ?_, ?_⟩
        · rw [wher, List.map_cons, wher, List.map_cons, delB, if_neg e]; exact congrArg _ h2
        · rw [what, List.map_cons, what, List.map_cons, delB, if_neg e]; exact congrArg _ h3
  rw [← hw] at he
  refine hK _ w' ⟨es', c', L', rfl, he, fun z hz => h3 z (hs.subset hz), ht'⟩ ?_
  have hfm : ∀ {A B : List (DEnt κ σ)}, A.Sublist B → (A.flatMap (·.sg)).Sublist (B.flatMap (·.sg)) := fun h => by
    induction h with
    | slnil => exact .refl _
    | cons a _ ih => simp only [List.flatMap_cons]; exact ih.trans (List.sublist_append_right _ _)
    | cons_cons a _ ih => simp only [List.flatMap_cons]; exact List.Sublist.append (.refl _) ih
  have h6 : Has0 E w' (([Hp.one mb (.map es' c')] ++ L.flatMap (·.sg)) ++ ss.flatten) := by unfold Has at hH; simpa using hH
  have h7 := h6.weak (ks := ([Hp.one mb (.map es' c')] ++ L'.flatMap (·.sg)) ++ ss.flatten) (List.Sublist.append (List.Sublist.append (.refl _) (hfm hs)) (.refl _))
  unfold Has; simpa using h7
end ops
end
end Go.Q
namespace Go.Q
structure Kn where
  id : Int
  home : Int
  first : Int
  last : Int
  state : Int
  changes : List Rec
  places : List (Int × Int)
def takesR (r c : Rec) : Bool := decide (r.kind = (backR c r.gsn r.prev).kind ∧ r.gsn = (backR c r.gsn r.prev).gsn ∧ r.txn = (backR c r.gsn r.prev).txn ∧ r.prev = (backR c r.gsn r.prev).prev ∧ r.page = (backR c r.gsn r.prev).page ∧ r.key = (backR c r.gsn r.prev).key ∧
  r.bh = (backR c r.gsn r.prev).bh ∧ r.bv = (backR c r.gsn r.prev).bv ∧ r.ah = (backR c r.gsn r.prev).ah ∧ r.av = (backR c r.gsn r.prev).av ∧ r.undo = (backR c r.gsn r.prev).undo)
theorem takesR_iff {r c : Rec} : takesR r c = true ↔ r = backR c r.gsn r.prev := by
  unfold takesR
  rw [decide_eq_true_iff]
  generalize backR c r.gsn r.prev = b
  cases r; cases b; simp
/-- a place where no fewer changes were left -/
def beyond (n : Int) (p : Int × Int) : Bool := decide (n ≤ p.2)
def stepK (k : Kn) (r : Rec) : Kn :=
  if r.kind = 2 then ⟨k.id, k.home, k.first, r.gsn, k.state, k.changes ++ [r], k.places⟩
  else if r.kind = 3 then ⟨k.id, k.home, k.first, r.gsn, k.state, k.changes.take (k.changes.length - 1), k.places.filter fun p => !beyond k.changes.length p⟩
  else if r.kind = 4 then ⟨k.id, k.home, k.first, r.gsn, k.state, k.changes, k.places ++ [(r.undo, (k.changes.length : Int))]⟩
  else if r.kind = 5 then ⟨k.id, k.home, k.first, r.gsn, 2, k.changes, k.places⟩
  else if r.kind = 6 then ⟨k.id, k.home, k.first, r.gsn, 3, k.changes, k.places⟩
  else ⟨k.id, k.home, k.first, r.gsn, k.state, k.changes, k.places⟩
def noteE (k : Kn) (r : Rec) : Int :=
  if k.state ≠ 1 then 12 else if r.prev ≠ k.last then 1
  else if r.kind = 3 ∧ (match k.changes.getLast? with | none => true | some c => !takesR r c) = true then 1 else 0
def noteK (k : Kn) (r : Rec) : Kn := if noteE k r = 0 then stepK k r else k
theorem last_at {l : List Rec} {i : Int} {x : Rec} (h : i = (l.length : Int) - 1) (hx : l[i.toNat]? = some x) : l.getLast? = some x := by
  rw [List.getLast?_eq_getElem?, ← hx]; congr 1; omega
theorem last_nil {l : List Rec} (h : ((l.length : Nat) : Int) = 0) : l.getLast? = none := by
  have : l = [] := List.eq_nil_of_length_eq_zero (by omega)
  rw [this]; rfl
end Go.Q
namespace Go.Q
abbrev KTab := List (Int × Kn)
structure TxnS where
  m : KTab
def newK (home : Int) (r : Rec) : Kn := ⟨r.txn, home, r.gsn, r.gsn, 1, [], []⟩
def oneS (t : KTab) (home : Int) (r : Rec) : KTab × Int :=
  if rightR r = true then (match getB t r.txn with
    | some k => if r.kind = 1 then (t, 8) else (putB t r.txn (noteK k r), noteE k r)
    | none => if r.kind = 1 then (putB t r.txn (newK home r), 0) else (t, 7))
  else (t, 1)
def noteL (home : Int) : KTab → List Rec → KTab × Int
  | t, [] => (t, 0)
  | t, r :: rs => if (oneS t home r).2 = 0 then noteL home (oneS t home r).1 rs else oneS t home r
theorem getB_memK {β : Type} {k : Int} {v : β} : ∀ {l : List (Int × β)}, getB l k = some v → (k, v) ∈ l
  | [], h => by simp [getB] at h
  | (a, x) :: t, h => by
    rw [getB] at h
    split at h
    · rename_i e; cases h; rw [e]; exact List.mem_cons_self ..
    · exact List.mem_cons_of_mem _ (getB_memK h)
def szK (t : KTab) (n : Nat) : Prop := ∀ p ∈ t, p.2.changes.length ≤ n ∧ p.2.places.length ≤ n
theorem szK.get {t : KTab} {n : Nat} (h : szK t n) {k : Int} {e : Kn} (hg : getB t k = some e) : e.changes.length ≤ n ∧ e.places.length ≤ n := h _ (getB_memK hg)
theorem putK_two {β : Type} (k : Int) (u v : β) : ∀ l : List (Int × β), putB (putB l k u) k v = putB l k v
  | [] => by simp [putB]
  | (a, x) :: t => by
    rw [putB]
    split
    · rename_i h; subst h; simp [putB]
    · rename_i h; rw [putB, if_neg h, putK_two k u v t, putB, if_neg h]
theorem putK_self {β : Type} {k : Int} {e : β} : ∀ {t : List (Int × β)}, getB t k = some e → putB t k e = t
  | [], h => by simp [getB] at h
  | (a, x) :: t, h => by
    rw [getB] at h
    rw [putB]
    split at h
    · rename_i g; cases h; rw [if_pos g, g]
    · rename_i g; rw [if_neg g, putK_self h]
theorem mem_putK {β : Type} {k : Int} {v : β} {p : Int × β} : ∀ {l : List (Int × β)}, p ∈ putB l k v → p ∈ l ∨ p = (k, v)
  | [], h => by simp [putB] at h; exact .inr h
  | (a, x) :: t, h => by
    rw [putB] at h
    split at h
    · rcases List.mem_cons.1 h with e | e
      · exact .inr e
      · exact .inl (List.mem_cons_of_mem _ e)
    · rcases List.mem_cons.1 h with e | e
      · exact .inl (by rw [e]; exact List.mem_cons_self ..)
      · exact (mem_putK e).imp (List.mem_cons_of_mem _) id
theorem stepK_len (k : Kn) (r : Rec) : (stepK k r).changes.length ≤ k.changes.length + 1 ∧ (stepK k r).places.length ≤ k.places.length + 1 := by
  unfold stepK
  have h1 := List.length_filter_le (fun p => !beyond k.changes.length p) k.places
  repeat' split
  all_goals simp only [List.length_append, List.length_cons, List.length_nil, List.length_take] at h1 ⊢
  all_goals omega
theorem noteK_len (k : Kn) (r : Rec) : (noteK k r).changes.length ≤ k.changes.length + 1 ∧ (noteK k r).places.length ≤ k.places.length + 1 := by
  unfold noteK; split
  · exact stepK_len k r
  · omega
theorem szK.mono {t : KTab} {n m : Nat} (h : szK t n) (hm : n ≤ m) : szK t m := fun p hp => ⟨Nat.le_trans (h p hp).1 hm, Nat.le_trans (h p hp).2 hm⟩
theorem szK.one {t : KTab} {n : Nat} (h : szK t n) {home : Int} {r : Rec} : szK (oneS t home r).1 (n + 1) := by
  unfold oneS
  split
  · split
    · rename_i k hk
      split
      · exact h.mono (by omega)
      · intro p hp
        rcases mem_putK hp with e | e
        · exact h.mono (Nat.le_succ n) p e
        · rw [e]; have h1 := noteK_len k r; have h2 := h.get hk; simp only; omega
    · split
      · intro p hp
        rcases mem_putK hp with e | e
        · exact h.mono (Nat.le_succ n) p e
        · rw [e]; simp [newK]
      · exact h.mono (by omega)
  · exact h.mono (by omega)
theorem noteL_go {home : Int} {t : KTab} {l : List Rec} {k : Nat} {r : Rec} {X : KTab × Int} (h : X = noteL home t (l.drop k)) (hr : l[k]? = some r) (h0 : (oneS t home r).2 = 0) : X = noteL home (oneS t home r).1 (l.drop (k + 1)) := by
  obtain ⟨hl, hg⟩ := List.getElem?_eq_some_iff.1 hr
  rw [h, List.drop_eq_getElem_cons hl, hg, noteL, if_pos h0]
theorem noteL_stop {home : Int} {t : KTab} {l : List Rec} {k : Nat} {r : Rec} {X : KTab × Int} (h : X = noteL home t (l.drop k)) (hr : l[k]? = some r) (h0 : (oneS t home r).2 ≠ 0) : X = oneS t home r := by
  obtain ⟨hl, hg⟩ := List.getElem?_eq_some_iff.1 hr
  rw [h, List.drop_eq_getElem_cons hl, hg, noteL, if_neg h0]
theorem noteL_end {home : Int} {t : KTab} {l : List Rec} {k : Nat} {X : KTab × Int} (h : X = noteL home t (l.drop k)) (hk : k = l.length) : X = (t, 0) := by
  rw [h, hk, List.drop_length, noteL]
end Go.Q
namespace Go.Q
open Go.Proofs
set_option linter.unusedVariables false
set_option maxRecDepth 100000
attribute [local irreducible] wpList OK Code.wp
set_option maxHeartbeats 4000000 in
theorem plindexf_c {E w : World} {R : List Hp} {v_l : Value} {l : List (Int × Int)} {fn : FuncId} {first cap : Array Value} {va : Value → Array Value} {c : (Int × Int) → Bool}  (hH : Has E w [R]) (h_l : Sl R 2 v_l l.length (l.flatMap tmC)) (hcl : Callable Try.prog fn) (hva : ∀ v, first ++ #[v] ++ cap = va v) (hcb : ∀ {w : World} (F_ : List Hp) (x_ : Int × Int), Has E w [R, F_] → Calls Try.prog fn (va (.agg #[(.int .i64 x_.1), (.int .i64 x_.2)])) w fun e w' => e = .returned (.bool (c x_)) ∧ Has E w' [R, F_]) :
    Calls Try.prog 179 #[v_l, (.func (.func fn) first cap)] w fun e w' => e = .returned (.int .i64 (idxG c l)) ∧ Has E w' [R] := by
  have hn_ := h_l.le
  refine c_enter (args := [v_l, (.func (.func fn) first cap)]) Try.func179 rfl Try.ntmps179 (by simp) ?_
  refine wp_seq_k fun K1 hK1 => ?_
  refine c_region ?_
  refine s_op (o_assign (v := (.int .i64 0)) rfl ?_)
  refine s_nil ?_
  refine t_norm (hK1 _ _ ?_)
  refine wp_seq_k fun K2 hK2 => ?_
  refine wp_seq_k fun K3 hK3 => ?_
  refine c_region ?_
  refine s_op (o_move (v := v_l) rfl ?_)
  refine s_op (o_lenS Try.underlying33 rfl h_l ?_)
  refine s_op (o_move (v := (.int .i64 0)) rfl ?_)
  refine s_nil ?_
  refine t_norm (hK3 _ _ ?_)
  refine wp_block ?_
  let I5 : Nat → (Nat → Value) → World → Prop := fun n__ r__ w__ => ∃ (k : Nat), n__ = l.length - k ∧ Has E w__ [R] ∧ (k ≤ l.length) ∧ (∀ j, j < k → ∀ y, l[j]? = some y → c y = false) ∧ r__ 0 = v_l ∧ r__ 1 = (.func (.func fn) first cap) ∧ r__ 7 = (.int .i64 ((l.length : Nat) : Int)) ∧ r__ 8 = (.int .i64 (k : Int))
  refine c_loop I5 _ ⟨0, rfl, hH, Nat.zero_le _, fun j hj => by omega, rfl, rfl, rfl, rfl⟩ ?_
  rintro n_ r8 w6 ⟨k, rfl, hH7, hk, hf, e4_0, e4_1, e4_7, e4_8⟩
  refine wp_seq_k fun K9 hK9 => ?_
  refine c_region ?_
  refine s_op (o_lss (a := (k : Int)) (b := ((l.length : Nat) : Int)) e4_8 e4_7 ?_)
  refine s_nil ?_
  refine t_norm (hK9 _ _ ?_)
  refine wp_seq_k fun K10 hK10 => ?_
  refine c_cond rfl (fun h11 => ?_) (fun h11 => ?_)
  · -- (k : Int) < ((l.length : Nat) : Int)
    refine wp_skip ?_
    refine t_norm (hK10 _ _ ?_)
    refine wp_seq_k fun K12 hK12 => ?_
    refine wp_block ?_
    refine wp_seq_k fun K13 hK13 => ?_
    refine c_region ?_
    refine s_op (o_move (v := (.int .i64 (k : Int))) e4_8 ?_)
    refine s_op (o_assign (v := (.int .i64 (k : Int))) rfl ?_)
    refine s_nil ?_
    refine t_norm (hK13 _ _ ?_)
    refine wp_seq_k fun K14 hK14 => ?_
    refine c_region ?_
    refine s_op (o_move (v := (.func (.func fn) first cap)) e4_1 ?_)
    refine s_op (o_move (v := v_l) e4_0 ?_)
    refine s_op (o_move (v := (.int .i64 (k : Int))) rfl ?_)
    obtain ⟨x18, hx19⟩ : ∃ x_, l[((k : Int)).toNat]? = some x_ := get_some (by omega)
    refine s_op (o_indexF tmC_len Try.underlying33 ti39 rfl h_l rfl rfl (by omega) hx19 fun b15 o16 hc17 => ?_)
    refine s_op (o_loadN (cs := [(.int .i64 x18.1), (.int .i64 x18.2)]) Try.underlying39 rfl ti39 rfl hH7 (seg_sub 0 rfl) hc17 ?_)
    refine s_op (o_callf (first := first) (captured := cap) (vs := va (.agg #[(.int .i64 x18.1), (.int .i64 x18.2)])) hcl rfl ((argsG1 rfl).trans (hva _)) (hcb _ (x18.1, x18.2) hH7.all1) ?_)
    rintro _ w22 ⟨rfl, hX20⟩
    refine ⟨_, rfl, ?_⟩
    have hH21 := hX20.of_all1
    refine s_nil ?_
    refine t_norm (hK14 _ _ ?_)
    refine c_condb rfl (fun h23 => ?_) (fun h23 => ?_)
    · -- c (x18.1, x18.2)
      refine wp_seq_k fun K24 hK24 => ?_
      refine c_region ?_
      refine s_op (o_move (v := (.int .i64 (k : Int))) rfl ?_)
      refine s_op (o_assign (v := (.int .i64 (k : Int))) rfl ?_)
      refine s_nil ?_
      refine t_norm (hK24 _ _ ?_)
      refine wp_ret ?_
      refine b_ret (t_ret (t_ret (b_ret (t_ret (c_ret1 Try.results179  (v := (.int .i64 (k : Int))) rfl ?_)))))
      have q25 : idxG c l = (k : Int) := by exact idxG_some hf (show l[k]? = some _ from hx19) h23
      exact ⟨by rw [q25], hH21⟩
    · -- not: c (x18.1, x18.2)
      refine wp_skip ?_
      refine b_norm ?_
      refine t_norm (hK12 _ _ ?_)
      refine c_region ?_
      refine s_op (o_add (a := (k : Int)) (b := 1) e4_8 rfl (w64 (by omega) (by omega)) ?_)
      refine s_op (o_move (v := (.int .i64 ((k : Int) + 1))) rfl ?_)
      refine s_nil ?_
      refine t_norm ⟨l.length - (k + 1), _, rfl, ?_, ?_⟩
      · omega
      · exact ⟨(k + 1), rfl, hH21, (by omega), ((fun j hj y hy => by rcases Nat.lt_or_ge j k with g | g; exact hf j g y hy; obtain rfl : j = k := (by omega); have e_ := hy.symm.trans (show l[j]? = some _ from hx19); cases e_; exact h23)), e4_0, e4_1, e4_7, rfl⟩
  · -- not: (k : Int) < ((l.length : Nat) : Int)
    refine wp_exit ?_
    refine t_exit (t_exit (x_in (?_)))
    refine t_norm (hK2 _ _ ?_)
    refine wp_seq_k fun K26 hK26 => ?_
    refine c_region ?_
    refine s_op (o_assign (v := (.int .i64 (-1))) rfl ?_)
    refine s_nil ?_
    refine t_norm (hK26 _ _ ?_)
    refine wp_ret ?_
    refine c_ret1 Try.results179  (v := (.int .i64 (-1))) rfl ?_
    have q27 : idxG c l = -1 := by exact idxG_none fun j x hx => hf j (by have := (List.getElem?_eq_some_iff.1 hx).1; omega) x hx
    exact ⟨by rw [q27], hH7⟩
set_option maxHeartbeats 4000000 in
theorem pldelf_c {E w : World} {R : List Hp} {v_l : Value} {s_l : List Hp} {l : List (Int × Int)} {fn : FuncId} {first cap : Array Value} {va : Value → Array Value} {c : (Int × Int) → Bool}  (hH : Has E w [s_l, R]) (h_l : Own 39 2 v_l l.length (l.flatMap tmC) s_l) (hcl : Callable Try.prog fn) (hva : ∀ v, first ++ #[v] ++ cap = va v) (hcb : ∀ {w : World} (F_ : List Hp) (x_ : Int × Int), Has E w [R, F_] → Calls Try.prog fn (va (.agg #[(.int .i64 x_.1), (.int .i64 x_.2)])) w fun e w' => e = .returned (.bool (c x_)) ∧ Has E w' [R, F_]) (hn : l.length ≤ 1000000) :
    Calls Try.prog 152 #[v_l, (.func (.func fn) first cap)] w fun e w' => ∃ (v1' : Value) (s2' : List Hp), e = .returned v1' ∧ (Own 39 2 v1' (l.filter fun x_ => !c x_).length ((l.filter fun x_ => !c x_).flatMap tmC) s2') ∧ Has E w' [s2', R] := by
  refine c_enter (args := [v_l, (.func (.func fn) first cap)]) Try.func152 rfl Try.ntmps152 (by simp) ?_
  refine wp_seq_k fun K1 hK1 => ?_
  refine c_region ?_
  refine s_op (o_assign (v := (.slice none 0 0)) rfl ?_)
  refine s_nil ?_
  refine t_norm (hK1 _ _ ?_)
  refine wp_seq_k fun K2 hK2 => ?_
  refine c_region ?_
  refine s_op (o_move (v := v_l) rfl ?_)
  refine s_op (o_move (v := (.func (.func fn) first cap)) rfl ?_)
  have hH3 := (hH.front 1 rfl)
  refine s_op (o_callf (vs := #[v_l, (.func (.func fn) first cap)]) ca179 rfl (args2 rfl rfl) (plindexf_c (l := l) (c := c) (va := va) hH3.all (h_l.sl.mono (seg_sub 1 rfl)) hcl hva (cb_more (α := Int × Int) (R := R) (va := fun x_ => va (.agg #[(.int .i64 x_.1), (.int .i64 x_.2)])) (A := fun x_ e_ => e_ = .returned (.bool (c x_))) hcb)) ?_)
  rintro _ w6 ⟨rfl, hX4⟩
  refine ⟨_, rfl, ?_⟩
  have hH5 := hX4.of_all
  refine s_op (o_assign (v := (.int .i64 (idxG c l))) rfl ?_)
  refine s_nil ?_
  refine t_norm (hK2 _ _ ?_)
  refine wp_seq_k fun K7 hK7 => ?_
  refine wp_seq_k fun K8 hK8 => ?_
  refine c_region ?_
  refine s_op (o_move (v := (.int .i64 (idxG c l))) rfl ?_)
  refine s_op (o_eql (a := idxG c l) (b := -1) rfl rfl ?_)
  refine s_nil ?_
  refine t_norm (hK8 _ _ ?_)
  refine c_cond rfl (fun h9 => ?_) (fun h9 => ?_)
  · -- idxG c l = -1
    refine wp_seq_k fun K10 hK10 => ?_
    refine c_region ?_
    refine s_op (o_move (v := v_l) rfl ?_)
    refine s_op (o_assign (v := v_l) rfl ?_)
    refine s_nil ?_
    refine t_norm (hK10 _ _ ?_)
    refine wp_ret ?_
    refine t_ret (c_ret1 Try.results152  (v := v_l) rfl ?_)
    have hH11 : Has E w6 [s_l, R] := (hH5.front 1 rfl).first 2 rfl
    have q_ : (l.filter fun x_ => !c x_) = l := df_none h9
    exact ⟨_, _, rfl, by rw [q_]; exact h_l, hH11⟩
  · -- not: idxG c l = -1
    have hix : 0 ≤ idxG c l := by have h_ := idxG_lt c l; omega
    have hix2 : idxG c l < l.length := (idxG_lt c l).2
    refine wp_skip ?_
    refine t_norm (hK7 _ _ ?_)
    refine wp_seq_k fun K12 hK12 => ?_
    refine wp_seq_k fun K13 hK13 => ?_
    refine c_region ?_
    refine s_op (o_move (v := (.int .i64 (idxG c l))) rfl ?_)
    refine s_op (o_add (a := idxG c l) (b := 1) rfl rfl (w64 (by omega) (by omega)) ?_)
    refine s_op (o_assign (v := (.int .i64 ((idxG c l) + 1))) rfl ?_)
    refine s_nil ?_
    refine t_norm (hK13 _ _ ?_)
    refine wp_block ?_
    let I15 : Nat → (Nat → Value) → World → Prop := fun n__ r__ w__ => ∃ (ii : Int) (jj : Int) (sw : List Hp) (lw : List (Int × Int)), n__ = (l.length - jj).toNat ∧ Has E w__ [sw, R] ∧ (0 ≤ ii ∧ ii < jj ∧ jj ≤ (l.length : Int)) ∧ (lw.length = l.length) ∧ (Own 39 2 v_l lw.length (lw.flatMap tmC) sw) ∧ (lw.take ii.toNat = (l.take jj.toNat).filter fun x_ => !c x_) ∧ (lw.drop jj.toNat = l.drop jj.toNat) ∧ r__ 0 = v_l ∧ r__ 1 = (.func (.func fn) first cap) ∧ r__ 4 = (.slice none 0 0) ∧ r__ 5 = (.int .i64 ii) ∧ r__ 6 = (.int .i64 jj) ∧ r__ 12 = (.bool (decide (idxG c l = -1)))
    have hH16 : Has E w6 [s_l, R] := (hH5.front 1 rfl).first 2 rfl
    refine c_loop I15 _ ⟨(idxG c l), (idxG c l + 1), s_l, l, rfl, hH16, ⟨by omega, by omega, by omega⟩, rfl, h_l, (by rw [show (idxG c l + 1).toNat = (idxG c l).toNat + 1 by omega]; exact df_start hix), rfl, rfl, rfl, rfl, rfl, rfl, rfl⟩ ?_
    rintro n_ r19 w17 ⟨ii, jj, sw, lw, rfl, hH18, hij, hlw, hw, htk, hdr, e14_0, e14_1, e14_4, e14_5, e14_6, e14_12⟩
    have hn_ := hw.sl.le
    obtain ⟨hij1, hij2, hij3⟩ := hij
    refine wp_seq_k fun K20 hK20 => ?_
    refine wp_seq_k fun K21 hK21 => ?_
    refine c_region ?_
    refine s_op (o_move (v := (.int .i64 jj)) e14_6 ?_)
    refine s_op (o_move (v := v_l) e14_0 ?_)
    refine s_op (o_lenS Try.underlying33 rfl hw.sl ?_)
    refine s_op (o_lss (a := jj) (b := ((lw.length : Nat) : Int)) rfl rfl ?_)
    refine s_nil ?_
    refine t_norm (hK21 _ _ ?_)
    refine c_cond rfl (fun h22 => ?_) (fun h22 => ?_)
    · -- jj < ((lw.length : Nat) : Int)
      refine wp_skip ?_
      refine t_norm (hK20 _ _ ?_)
      refine wp_seq_k fun K23 hK23 => ?_
      refine wp_block ?_
      refine wp_seq_k fun K24 hK24 => ?_
      refine c_region ?_
      refine s_op (o_move (v := v_l) e14_0 ?_)
      refine s_op (o_move (v := (.int .i64 jj)) e14_6 ?_)
      obtain ⟨x28, hx29⟩ : ∃ x_, lw[(jj).toNat]? = some x_ := get_some (by omega)
      refine s_op (o_indexF tmC_len Try.underlying33 ti39 rfl hw.sl rfl rfl (by omega) hx29 fun b25 o26 hc27 => ?_)
      refine s_op (o_loadN (cs := [(.int .i64 x28.1), (.int .i64 x28.2)]) Try.underlying39 rfl ti39 rfl hH18 (seg_sub 0 rfl) hc27 ?_)
      refine s_op (o_alloc (cs := #[(.int .i64 0), (.int .i64 0)]) ti39 rfl hH18 fun b30 w31 hH32 => ?_)
      refine s_eff (o_storeN (vs := [(.int .i64 x28.1), (.int .i64 x28.2)]) (c' := #[(.int .i64 x28.1), (.int .i64 x28.2)]) ti39 rfl rfl rfl rfl (by intro u hu; simp only [List.mem_cons, List.not_mem_nil, or_false] at hu; rcases hu with rfl | rfl <;> first | rfl) (by simp) (by kernel_rfl) (hH32.front 0 rfl) fun w33 hH34 => ?_)
      refine s_nil ?_
      refine t_norm (hK24 _ _ ?_)
      refine wp_seq_k fun K35 hK35 => ?_
      refine c_region ?_
      refine s_op (o_move (v := (.func (.func fn) first cap)) e14_1 ?_)
      refine s_op (o_loadN (cs := [(.int .i64 x28.1), (.int .i64 x28.2)]) Try.underlying39 rfl ti39 rfl hH34 (seg_sub 0 rfl) (CellsAt.one rfl) ?_)
      refine s_op (o_callf (first := first) (captured := cap) (vs := va (.agg #[(.int .i64 x28.1), (.int .i64 x28.2)])) hcl rfl ((argsG1 rfl).trans (hva _)) (hcb _ (x28.1, x28.2) (hH34.front 2 rfl).all1) ?_)
      rintro _ w38 ⟨rfl, hX36⟩
      refine ⟨_, rfl, ?_⟩
      have hH37 := hX36.of_all1
      refine s_op (o_not rfl ?_)
      refine s_nil ?_
      refine t_norm (hK35 _ _ ?_)
      refine c_condb rfl (fun h39 => ?_) (fun h39 => ?_)
      · -- !(c (x28.1, x28.2))
        have h39_n : (c (x28.1, x28.2)) = false := by simpa using h39
        refine wp_seq_k fun K40 hK40 => ?_
        refine c_region ?_
        refine s_op (o_move (v := v_l) e14_0 ?_)
        refine s_op (o_move (v := (.int .i64 ii)) e14_5 ?_)
        refine s_op (o_loadN (cs := [(.int .i64 x28.1), (.int .i64 x28.2)]) Try.underlying39 rfl ti39 rfl hH37 (seg_sub 1 rfl) (CellsAt.one rfl) ?_)
        refine s_op (o_ownAddrF Try.underlying33 ti39 rfl hw rfl (by omega) (by first | omega | (simp only [List.length_append, List.length_cons, List.length_nil, List.length_set]; omega)) fun b41 ho42 => ?_)
        refine s_eff (o_ownStoreF (f := tmC) (l := lw) (a := (x28.1, x28.2)) (i := (ii).toNat) tmC_len ti39 rfl rfl rfl (fun u_ hu_ => (one_tm [(x28.1, x28.2)]) u_ (by simpa using hu_)) ho42 (by first | rfl | (simp only [List.length_append, List.length_cons, List.length_nil, List.length_set]; done) | simp) (by first | omega | (simp only [List.length_append, List.length_cons, List.length_nil, List.length_set]; omega)) (hH37.front 2 rfl) fun s43 w44 ho45 hH46 => ?_)
        refine s_nil ?_
        refine t_norm (hK40 _ _ ?_)
        refine c_region ?_
        refine s_op (o_move (v := (.int .i64 ii)) e14_5 ?_)
        refine s_op (o_add (a := ii) (b := 1) rfl rfl (w64 (by omega) (by omega)) ?_)
        refine s_op (o_assign (v := (.int .i64 (ii + 1))) rfl ?_)
        refine s_nil ?_
        refine b_norm ?_
        refine t_norm (hK23 _ _ ?_)
        refine c_region ?_
        refine s_op (o_move (v := (.int .i64 jj)) e14_6 ?_)
        refine s_op (o_add (a := jj) (b := 1) rfl rfl (w64 (by omega) (by omega)) ?_)
        refine s_op (o_assign (v := (.int .i64 (jj + 1))) rfl ?_)
        refine s_nil ?_
        have hH47 : Has E w44 [s43, R] := ((hH46.front 1 rfl).front 1 rfl).first 2 rfl
        refine t_norm ⟨(l.length - (jj + 1)).toNat, _, rfl, ?_, ?_⟩
        · omega
        · exact ⟨(ii + 1), (jj + 1), s43, (lw.set ((ii).toNat) (x28.1, x28.2)), rfl, hH47, (⟨by omega, by omega, by omega⟩), (by rw [List.length_set]; exact hlw), (ho45), (by rw [show (ii + 1).toNat = ii.toNat + 1 by omega, show (jj + 1).toNat = jj.toNat + 1 by omega]; exact df_keep htk (show lw[jj.toNat]? = some _ from hx29) hdr (by omega) (by omega) h39_n), (by rw [show (jj + 1).toNat = jj.toNat + 1 by omega]; exact df_drops hdr (by omega)), e14_0, e14_1, e14_4, rfl, rfl, e14_12⟩
      · -- not: !(c (x28.1, x28.2))
        have h39_n : (c (x28.1, x28.2)) = true := by simpa using h39
        refine wp_skip ?_
        refine b_norm ?_
        refine t_norm (hK23 _ _ ?_)
        refine c_region ?_
        refine s_op (o_move (v := (.int .i64 jj)) e14_6 ?_)
        refine s_op (o_add (a := jj) (b := 1) rfl rfl (w64 (by omega) (by omega)) ?_)
        refine s_op (o_assign (v := (.int .i64 (jj + 1))) rfl ?_)
        refine s_nil ?_
        have hH48 : Has E w38 [sw, R] := (hH37.front 2 rfl).first 2 rfl
        refine t_norm ⟨(l.length - (jj + 1)).toNat, _, rfl, ?_, ?_⟩
        · omega
        · exact ⟨ii, (jj + 1), sw, lw, rfl, hH48, (⟨by omega, by omega, by omega⟩), (hlw), (hw), (by rw [show (jj + 1).toNat = jj.toNat + 1 by omega]; exact df_skip htk (show lw[jj.toNat]? = some _ from hx29) hdr h39_n), (by rw [show (jj + 1).toNat = jj.toNat + 1 by omega]; exact df_drop hdr), e14_0, e14_1, e14_4, e14_5, rfl, e14_12⟩
    · -- not: jj < ((lw.length : Nat) : Int)
      refine wp_exit ?_
      refine t_exit (t_exit (x_in (?_)))
      refine t_norm (hK12 _ _ ?_)
      refine wp_seq_k fun K49 hK49 => ?_
      refine c_region ?_
      have e_ : jj = (l.length : Int) := by omega
      obtain ⟨hl_, ⟨_, h0_, _⟩ | ⟨gb_, gcap_, gcur_, rfl, rfl, hnc_, hcm_, hsz_, hc_⟩⟩ := hw
      · exfalso; omega
      have hcm2_ : gcap_ ≤ 9223372036854775807 := by simpa [maxLen] using hcm_
      have hcs_ : lw.length * 2 ≤ gcur_.size := by rw [hsz_]; exact Nat.mul_le_mul_right _ hnc_
      refine s_op (o_move (v := (.slice (some ⟨gb_, 0, none⟩) lw.length gcap_)) e14_0 ?_)
      refine s_op (o_move (v := (.int .i64 ii)) e14_5 ?_)
      obtain ⟨o50, n51, c52, ho56, hn53, hc54, hq55⟩ := rsl_ex4 0 2 (i := ii) (j := ((lw.length : Nat) : Int)) (m := ((gcap_ : Nat) : Int)) (by omega) (by omega) (by omega)
      refine s_op (o_rsl2 (i := ii) (j := ((lw.length : Nat) : Int)) (m := ((gcap_ : Nat) : Int)) Try.underlying33 ti39 rfl (bounds_l (n := lw.length) (cap := gcap_) (i := ii) (by omega) (by omega)) (by omega) (by omega) (by omega) ho56 hn53 hc54 ?_)
      refine s_eff (o_clear Try.underlying33 ti39 rfl rfl hH18 (by omega) (fun u hu => by (have h_ : u ∈ ([(.int .i64 0), (.int .i64 0)] : List Value) := by simpa [Value.cells, S] using hu); simp only [List.mem_cons, List.not_mem_nil, or_false] at h_; rcases h_ with rfl | rfl <;> rfl) fun c57 w58 v59 hc60 hc61 hH62 => ?_)
      refine s_nil ?_
      refine t_norm (hK49 _ _ ?_)
      refine wp_seq_k fun K63 hK63 => ?_
      refine c_region ?_
      refine s_op (o_move (v := (.slice (some ⟨gb_, 0, none⟩) lw.length gcap_)) e14_0 ?_)
      refine s_op (o_move (v := (.int .i64 ii)) e14_5 ?_)
      obtain ⟨o64, n65, c66, ho70, hn67, hc68, hq69⟩ := rsl_ex4 0 2 (i := 0) (j := ii) (m := ((gcap_ : Nat) : Int)) (by omega) (by omega) (by omega)
      refine s_op (o_rsl2 (i := 0) (j := ii) (m := ((gcap_ : Nat) : Int)) Try.underlying33 ti39 rfl (bounds_h (n := lw.length) (cap := gcap_) (j := ii) (by omega) (by omega)) (by omega) (by omega) (by omega) ho70 hn67 hc68 ?_)
      refine s_op (o_assign (v := (.slice (some ⟨gb_, o64, none⟩) n65 c66)) rfl ?_)
      refine s_nil ?_
      refine t_norm (hK63 _ _ ?_)
      refine wp_ret ?_
      refine c_ret1 Try.results152  (v := (.slice (some ⟨gb_, o64, none⟩) n65 c66)) rfl ?_
      have htk' : lw.take ii.toNat = l.filter fun x_ => !c x_ := by rw [htk, List.take_of_length_le (by omega)]
      have hil_ : (l.filter fun x_ => !c x_).length = ii.toNat := by rw [← htk', List.length_take]; omega
      refine ⟨_, _, rfl, ⟨?_, .inr ⟨gb_, c66, c57, by rw [hil_, show n65 = ii.toNat from by omega, show (o64 : Nat) = 0 from by omega], rfl, by omega, by simp only [maxLen]; omega, by have h_ := hc60; simp only [Array.length_toList] at h_; omega, ?_⟩⟩, hH62⟩
      · exact flat_len tmC_len _
      · rw [hil_, ← htk']; exact df_endF tmC_len hc61 hc_ (by omega) (by omega)
set_option maxHeartbeats 4000000 in
theorem takes_c {E w : World} {R : List Hp} {r : Rec} {c : Rec}  (hH : Has E w [R]) :
    Calls Try.prog 151 #[(.agg #[(.int .i64 r.kind), (.int .i64 r.gsn), (.int .i64 r.txn), (.int .i64 r.prev), (.int .i64 r.page), (S r.key), (.bool r.bh), (S r.bv), (.bool r.ah), (S r.av), (.int .i64 r.undo)]), (.agg #[(.int .i64 c.kind), (.int .i64 c.gsn), (.int .i64 c.txn), (.int .i64 c.prev), (.int .i64 c.page), (S c.key), (.bool c.bh), (S c.bv), (.bool c.ah), (S c.av), (.int .i64 c.undo)])] w fun e w' => e = .returned (.bool (takesR r c)) ∧ Has E w' [R] := by
  refine c_enter (args := [(.agg #[(.int .i64 r.kind), (.int .i64 r.gsn), (.int .i64 r.txn), (.int .i64 r.prev), (.int .i64 r.page), (S r.key), (.bool r.bh), (S r.bv), (.bool r.ah), (S r.av), (.int .i64 r.undo)]), (.agg #[(.int .i64 c.kind), (.int .i64 c.gsn), (.int .i64 c.txn), (.int .i64 c.prev), (.int .i64 c.page), (S c.key), (.bool c.bh), (S c.bv), (.bool c.ah), (S c.av), (.int .i64 c.undo)])]) Try.func151 rfl Try.ntmps151 (by simp) ?_
  refine wp_seq_k fun K1 hK1 => ?_
  refine c_region ?_
  refine s_op (o_box (cs := #[(.int .i64 r.kind), (.int .i64 r.gsn), (.int .i64 r.txn), (.int .i64 r.prev), (.int .i64 r.page), (S r.key), (.bool r.bh), (S r.bv), (.bool r.ah), (S r.av), (.int .i64 r.undo)]) rfl rfl hH fun b2 w3 hH4 => ?_)
  refine s_op (o_box (cs := #[(.int .i64 c.kind), (.int .i64 c.gsn), (.int .i64 c.txn), (.int .i64 c.prev), (.int .i64 c.page), (S c.key), (.bool c.bh), (S c.bv), (.bool c.ah), (S c.av), (.int .i64 c.undo)]) rfl rfl hH4 fun b5 w6 hH7 => ?_)
  refine s_op (o_assign (v := (.bool false)) rfl ?_)
  refine s_nil ?_
  refine t_norm (hK1 _ _ ?_)
  refine wp_seq_k fun K8 hK8 => ?_
  refine Rest.region mixed (by kernel_rfl) ?_
  have hH9 : Has E { w6 with drawn := w6.drawn + 1 } [[Hp.one b5 (.cells #[(.int .i64 c.kind), (.int .i64 c.gsn), (.int .i64 c.txn), (.int .i64 c.prev), (.int .i64 c.page), (S c.key), (.bool c.bh), (S c.bv), (.bool c.ah), (S c.av), (.int .i64 c.undo)] 32 (0, 0))], [Hp.one b2 (.cells #[(.int .i64 r.kind), (.int .i64 r.gsn), (.int .i64 r.txn), (.int .i64 r.prev), (.int .i64 r.page), (S r.key), (.bool r.bh), (S r.bv), (.bool r.ah), (S r.av), (.int .i64 r.undo)] 32 (0, 0))], R] := Has0.drew hH7 _
  refine Rest.phaseA (fun w_ => Has E w_ [[Hp.one b5 (.cells #[(.int .i64 c.kind), (.int .i64 c.gsn), (.int .i64 c.txn), (.int .i64 c.prev), (.int .i64 c.page), (S c.key), (.bool c.bh), (S c.bv), (.bool c.ah), (S c.av), (.int .i64 c.undo)] 32 (0, 0))], [Hp.one b2 (.cells #[(.int .i64 r.kind), (.int .i64 r.gsn), (.int .i64 r.txn), (.int .i64 r.prev), (.int .i64 r.page), (S r.key), (.bool r.bh), (S r.bv), (.bool r.ah), (S r.av), (.int .i64 r.undo)] 32 (0, 0))]]) 0 7 7 rfl (by decide) (by kernel_rfl) ?_
  refine a_op 0 rfl (by kernel_rfl) (fun w_ h_ => o_loadN (cs := [(.int .i64 r.kind), (.int .i64 r.gsn), (.int .i64 r.txn), (.int .i64 r.prev), (.int .i64 r.page), (S r.key), (.bool r.bh), (S r.bv), (.bool r.ah), (S r.av), (.int .i64 r.undo)]) Try.underlying32 rfl ti32 rfl h_ (seg_sub 1 rfl) (CellsAt.one rfl) ⟨rfl, rfl⟩) ?_
  refine a_op 1 rfl (by kernel_rfl) (fun w_ h_ => o_loadN (cs := [(.int .i64 c.kind), (.int .i64 c.gsn), (.int .i64 c.txn), (.int .i64 c.prev), (.int .i64 c.page), (S c.key), (.bool c.bh), (S c.bv), (.bool c.ah), (S c.av), (.int .i64 c.undo)]) Try.underlying32 rfl ti32 rfl h_ (seg_sub 0 rfl) (CellsAt.one rfl) ⟨rfl, rfl⟩) ?_
  refine a_op 2 rfl (by kernel_rfl) (fun w_ h_ => o_fieldAddr (k := 1) (fun _ => by kernel_rfl) rfl ⟨rfl, rfl⟩) ?_
  refine a_op 3 rfl (by kernel_rfl) (fun w_ h_ => o_load1 (v := (.int .i64 r.gsn)) Try.underlying3 rfl rfl h_ (seg_sub 1 rfl) (CellsAt.one rfl) ⟨rfl, rfl⟩) ?_
  refine a_op 4 rfl (by kernel_rfl) (fun w_ h_ => o_fieldAddr (k := 3) (fun _ => by kernel_rfl) rfl ⟨rfl, rfl⟩) ?_
  refine a_op 5 rfl (by kernel_rfl) (fun w_ h_ => o_load1 (v := (.int .i64 r.prev)) Try.underlying3 rfl rfl h_ (seg_sub 1 rfl) (CellsAt.one rfl) ⟨rfl, rfl⟩) ?_
  have hH10 : Has E { w6 with drawn := w6.drawn + 1 } [[Hp.one b5 (.cells #[(.int .i64 c.kind), (.int .i64 c.gsn), (.int .i64 c.txn), (.int .i64 c.prev), (.int .i64 c.page), (S c.key), (.bool c.bh), (S c.bv), (.bool c.ah), (S c.av), (.int .i64 c.undo)] 32 (0, 0))], [Hp.one b2 (.cells #[(.int .i64 r.kind), (.int .i64 r.gsn), (.int .i64 r.txn), (.int .i64 r.prev), (.int .i64 r.page), (S r.key), (.bool r.bh), (S r.bv), (.bool r.ah), (S r.av), (.int .i64 r.undo)] 32 (0, 0))]] := ((hH9.front 1 rfl).front 1 rfl).first 2 rfl
  refine a_w 6 rfl (by kernel_rfl) hH10 (o_callf (vs := #[(.agg #[(.int .i64 c.kind), (.int .i64 c.gsn), (.int .i64 c.txn), (.int .i64 c.prev), (.int .i64 c.page), (S c.key), (.bool c.bh), (S c.bv), (.bool c.ah), (S c.av), (.int .i64 c.undo)]), (.int .i64 r.gsn), (.int .i64 r.prev)]) ca178 rfl (args3 rfl rfl rfl) (back_c (r := c) (g := r.gsn) (p := r.prev) hH9.all ) ?_)
  rintro _ w13 ⟨rfl, hX11⟩
  refine ⟨_, rfl, ?_⟩
  have hH12 := hX11.of_all
  have hH14 : Has E w13 [[Hp.one b5 (.cells #[(.int .i64 c.kind), (.int .i64 c.gsn), (.int .i64 c.txn), (.int .i64 c.prev), (.int .i64 c.page), (S c.key), (.bool c.bh), (S c.bv), (.bool c.ah), (S c.av), (.int .i64 c.undo)] 32 (0, 0))], [Hp.one b2 (.cells #[(.int .i64 r.kind), (.int .i64 r.gsn), (.int .i64 r.txn), (.int .i64 r.prev), (.int .i64 r.page), (S r.key), (.bool r.bh), (S r.bv), (.bool r.ah), (S r.av), (.int .i64 r.undo)] 32 (0, 0))]] := ((hH12.front 1 rfl).front 1 rfl).first 2 rfl
  refine a_done (by kernel_rfl) hH14 ?_
  refine r_op 7 rfl (by kernel_rfl) (o_eql32 r.kind r.gsn r.txn r.prev r.page r.key r.bh r.bv r.ah r.av r.undo ((backR c r.gsn r.prev).kind) ((backR c r.gsn r.prev).gsn) ((backR c r.gsn r.prev).txn) ((backR c r.gsn r.prev).prev) ((backR c r.gsn r.prev).page) ((backR c r.gsn r.prev).key) ((backR c r.gsn r.prev).bh) ((backR c r.gsn r.prev).bv) ((backR c r.gsn r.prev).ah) ((backR c r.gsn r.prev).av) ((backR c r.gsn r.prev).undo) rfl rfl ?_)
  refine r_op 8 rfl (by kernel_rfl) (o_assign (v := (.bool (eqv32 r.kind r.gsn r.txn r.prev r.page r.key r.bh r.bv r.ah r.av r.undo ((backR c r.gsn r.prev).kind) ((backR c r.gsn r.prev).gsn) ((backR c r.gsn r.prev).txn) ((backR c r.gsn r.prev).prev) ((backR c r.gsn r.prev).page) ((backR c r.gsn r.prev).key) ((backR c r.gsn r.prev).bh) ((backR c r.gsn r.prev).bv) ((backR c r.gsn r.prev).ah) ((backR c r.gsn r.prev).av) ((backR c r.gsn r.prev).undo)))) rfl ?_)
  refine Rest.done (by kernel_rfl) ?_
  refine t_norm (hK8 _ _ ?_)
  refine wp_ret ?_
  refine c_ret1 Try.results151  (v := (.bool (eqv32 r.kind r.gsn r.txn r.prev r.page r.key r.bh r.bv r.ah r.av r.undo ((backR c r.gsn r.prev).kind) ((backR c r.gsn r.prev).gsn) ((backR c r.gsn r.prev).txn) ((backR c r.gsn r.prev).prev) ((backR c r.gsn r.prev).page) ((backR c r.gsn r.prev).key) ((backR c r.gsn r.prev).bh) ((backR c r.gsn r.prev).bv) ((backR c r.gsn r.prev).ah) ((backR c r.gsn r.prev).av) ((backR c r.gsn r.prev).undo)))) rfl ?_
  have q15 : (takesR r c) = eqv32 r.kind r.gsn r.txn r.prev r.page r.key r.bh r.bv r.ah r.av r.undo ((backR c r.gsn r.prev).kind) ((backR c r.gsn r.prev).gsn) ((backR c r.gsn r.prev).txn) ((backR c r.gsn r.prev).prev) ((backR c r.gsn r.prev).page) ((backR c r.gsn r.prev).key) ((backR c r.gsn r.prev).bh) ((backR c r.gsn r.prev).bv) ((backR c r.gsn r.prev).ah) ((backR c r.gsn r.prev).av) ((backR c r.gsn r.prev).undo) := by rw [eqv32_dec]; rfl
  have hH16 : Has E w13 [R] := (hH12.front 2 rfl).first 1 rfl
  exact ⟨by rw [q15], hH16⟩
end Go.Q
namespace Go.Q
open Go.Proofs
set_option linter.unusedVariables false
set_option maxRecDepth 100000
attribute [local irreducible] wpList OK Code.wp
def KnAt (b : Nat) (sg : List Hp) (v : Kn) : Prop := ∃ (x5 : Value) (x6 : Value) (h5 : List Hp) (h6 : List Hp), sg = ([Hp.one b (.cells #[(.int .i64 v.id), (.int .i64 v.home), (.int .i64 v.first), (.int .i64 v.last), (.int .i64 v.state), x5, x6] 130 (0, 0))] ++ (h5 ++ h6)) ∧ (Own 32 11 x5 v.changes.length (v.changes.flatMap recC) h5) ∧ (Own 39 2 x6 v.places.length (v.places.flatMap tmC) h6)
def KnRd (R : List Hp) (b : Nat) (v : Kn) : Prop := ∃ (x5 : Value) (x6 : Value), CellsAt R b 0 [(.int .i64 v.id), (.int .i64 v.home), (.int .i64 v.first), (.int .i64 v.last), (.int .i64 v.state), x5, x6] ∧ (Sl R 11 x5 v.changes.length (v.changes.flatMap recC)) ∧ (Sl R 2 x6 v.places.length (v.places.flatMap tmC))
theorem KnAt.mk {b : Nat} {v : Kn} {x5 : Value} {x6 : Value} {h5 : List Hp} {h6 : List Hp} (f5 : Own 32 11 x5 v.changes.length (v.changes.flatMap recC) h5) (f6 : Own 39 2 x6 v.places.length (v.places.flatMap tmC) h6) : KnAt b (([Hp.one b (.cells #[(.int .i64 v.id), (.int .i64 v.home), (.int .i64 v.first), (.int .i64 v.last), (.int .i64 v.state), x5, x6] 130 (0, 0))] ++ (h5 ++ h6))) v := ⟨_, _, _, _, rfl, f5, f6⟩
theorem KnRd.mk {R : List Hp} {b : Nat} {v : Kn} {x5 : Value} {x6 : Value} (hc : CellsAt R b 0 [(.int .i64 v.id), (.int .i64 v.home), (.int .i64 v.first), (.int .i64 v.last), (.int .i64 v.state), x5, x6]) (f5 : Sl R 11 x5 v.changes.length (v.changes.flatMap recC)) (f6 : Sl R 2 x6 v.places.length (v.places.flatMap tmC)) : KnRd R b v := ⟨_, _, hc, f5, f6⟩
theorem KnRd.mono {R R' : List Hp} {b : Nat} {v : Kn} (h : KnRd R b v) (hs : R ⊆ R') : KnRd R' b v := by
  obtain ⟨x5, x6, hc, f5, f6⟩ := h
  exact KnRd.mk (hc.mono hs) (f5.mono hs) (f6.mono hs)
theorem KnAt.rd {b : Nat} {sg : List Hp} {v : Kn} (h : KnAt b sg v) : KnRd sg b v := by
  obtain ⟨x5, x6, h5, h6, rfl, f5, f6⟩ := h
  exact KnRd.mk ((CellsAt.one rfl).mono (fun _ g_ => List.mem_append_left _ g_)) (f5.sl.mono (fun _ g_ => List.mem_append_right _ ((List.mem_append_left _ g_)))) (f6.sl.mono (fun _ g_ => List.mem_append_right _ (List.mem_append_right _ (g_))))
set_option maxHeartbeats 4000000 in
theorem told_c {E w : World} {R : List Hp} {kb : Nat} {v : Kn}  (hH : Has E w [R]) (h_kb : KnRd R kb v) (hn : v.changes.length ≤ 1000 ∧ v.places.length ≤ 1000) :
    Calls Try.prog 69 #[(.pointer (some ⟨kb, 0, none⟩))] w fun e w' => ∃ (v1' : Value) (s2' : List Hp) (v4' : Value) (s5' : List Hp), e = .returned (.agg #[(.int .i64 v.id), (.int .i64 v.home), (.int .i64 v.first), (.int .i64 v.last), (.int .i64 v.state), v1', v4']) ∧ (Own 32 11 v1' v.changes.length (v.changes.flatMap recC) s2') ∧ (Own 39 2 v4' v.places.length (v.places.flatMap tmC) s5') ∧ Has E w' [s2', s5', R] := by
  obtain ⟨hn1_, hn2_⟩ := hn
  obtain ⟨x1, x2, hc5, f3, f4⟩ := h_kb
  have f3_n := f3.le
  have f4_n := f4.le
  refine c_enter (args := [(.pointer (some ⟨kb, 0, none⟩))]) Try.func69 rfl Try.ntmps69 (by simp) ?_
  refine wp_seq_k fun K6 hK6 => ?_
  refine c_region ?_
  refine s_op (o_alloc (cs := #[(.int .i64 0), (.int .i64 0), (.int .i64 0), (.int .i64 0), (.int .i64 0), (.slice none 0 0), (.slice none 0 0)]) ti35 rfl hH fun b7 w8 hH9 => ?_)
  refine s_nil ?_
  refine t_norm (hK6 _ _ ?_)
  refine wp_seq_k fun K10 hK10 => ?_
  refine c_region ?_
  refine s_op (o_move (v := (.pointer (some ⟨kb, 0, none⟩))) rfl ?_)
  refine s_op (o_nilCheck rfl ?_)
  refine s_op (o_fieldAddr (k := 0) (fun _ => by kernel_rfl) rfl ?_)
  refine s_op (o_loadN (cs := [(.int .i64 v.id), (.int .i64 v.home), (.int .i64 v.first), (.int .i64 v.last), (.int .i64 v.state), x1, x2]) Try.underlying35 rfl ti35 rfl hH9 (seg_sub 1 rfl) (CellsAt.field (k := 0) (ds := [(.int .i64 v.id), (.int .i64 v.home), (.int .i64 v.first), (.int .i64 v.last), (.int .i64 v.state), x1, x2]) hc5 rfl) ?_)
  refine s_op (o_alloc (cs := #[(.int .i64 0), (.int .i64 0), (.int .i64 0), (.int .i64 0), (.int .i64 0), (.slice none 0 0), (.slice none 0 0)]) ti35 rfl hH9 fun b11 w12 hH13 => ?_)
  refine s_eff (o_storeN (vs := [(.int .i64 v.id), (.int .i64 v.home), (.int .i64 v.first), (.int .i64 v.last), (.int .i64 v.state), x1, x2]) (c' := #[(.int .i64 v.id), (.int .i64 v.home), (.int .i64 v.first), (.int .i64 v.last), (.int .i64 v.state), x1, x2]) ti35 rfl rfl rfl rfl (by intro u hu; simp only [List.mem_cons, List.not_mem_nil, or_false] at hu; rcases hu with rfl | rfl | rfl | rfl | rfl | rfl | rfl <;> first | rfl | exact f3.one | exact f4.one) (by simp) (by kernel_rfl) (hH13.front 0 rfl) fun w14 hH15 => ?_)
  refine s_nil ?_
  refine t_norm (hK10 _ _ ?_)
  refine wp_seq_k fun K16 hK16 => ?_
  refine Rest.region mixed (by kernel_rfl) ?_
  have hH17 : Has E { w14 with drawn := w14.drawn + 1 } [[Hp.one b11 (.cells #[(.int .i64 v.id), (.int .i64 v.home), (.int .i64 v.first), (.int .i64 v.last), (.int .i64 v.state), x1, x2] 35 (0, 0))], [Hp.one b7 (.cells #[(.int .i64 0), (.int .i64 0), (.int .i64 0), (.int .i64 0), (.int .i64 0), (.slice none 0 0), (.slice none 0 0)] 35 (0, 0))], R] := Has0.drew hH15 _
  refine Rest.phaseA (fun w_ => Has E w_ [[Hp.one b11 (.cells #[(.int .i64 v.id), (.int .i64 v.home), (.int .i64 v.first), (.int .i64 v.last), (.int .i64 v.state), x1, x2] 35 (0, 0))]]) 0 5 5 rfl (by decide) (by kernel_rfl) ?_
  refine a_op 0 rfl (by kernel_rfl) (fun w_ h_ => o_fieldAddr (k := 5) (fun _ => by kernel_rfl) rfl ⟨rfl, rfl⟩) ?_
  refine a_op 1 rfl (by kernel_rfl) (fun w_ h_ => o_load1 (v := x1) Try.underlying22 rfl rfl h_ (seg_sub 0 rfl) (CellsAt.one rfl) ⟨rfl, rfl⟩) ?_
  refine a_op 3 rfl (by kernel_rfl) (fun w_ h_ => o_fieldAddr (k := 6) (fun _ => by kernel_rfl) rfl ⟨rfl, rfl⟩) ?_
  refine a_op 4 rfl (by kernel_rfl) (fun w_ h_ => o_load1 (v := x2) Try.underlying33 rfl rfl h_ (seg_sub 0 rfl) (CellsAt.one rfl) ⟨rfl, rfl⟩) ?_
  have hH18 : Has E { w14 with drawn := w14.drawn + 1 } [[Hp.one b11 (.cells #[(.int .i64 v.id), (.int .i64 v.home), (.int .i64 v.first), (.int .i64 v.last), (.int .i64 v.state), x1, x2] 35 (0, 0))]] := hH17.first 1 rfl
  refine a_w 2 rfl (by kernel_rfl) hH18 (o_callf (vs := #[x1]) ca71 rfl (args1 rfl) (rclone_c (l := v.changes) hH17.all (f3.mono (seg_sub 2 rfl)) (by first | omega | (simp only []; omega) | (simp; done) | (simp; omega))) ?_)
  rintro _ w24 ⟨v19, s20, rfl, ho21, hX22⟩
  refine ⟨_, rfl, ?_⟩
  have hH23 : Has E w24 [s20, [Hp.one b11 (.cells #[(.int .i64 v.id), (.int .i64 v.home), (.int .i64 v.first), (.int .i64 v.last), (.int .i64 v.state), x1, x2] 35 (0, 0))], [Hp.one b7 (.cells #[(.int .i64 0), (.int .i64 0), (.int .i64 0), (.int .i64 0), (.int .i64 0), (.slice none 0 0), (.slice none 0 0)] 35 (0, 0))], R] := hX22.of_all1
  have hH25 : Has E w24 [[Hp.one b11 (.cells #[(.int .i64 v.id), (.int .i64 v.home), (.int .i64 v.first), (.int .i64 v.last), (.int .i64 v.state), x1, x2] 35 (0, 0))]] := (hH23.front 1 rfl).first 1 rfl
  refine a_done (by kernel_rfl) hH25 ?_
  refine Rest.phaseA (fun w_ => Has E w_ []) 5 7 2 rfl (by decide) (by kernel_rfl) ?_
  refine a_op 6 rfl (by kernel_rfl) (fun w_ h_ => o_fieldAddr (k := 5) (fun _ => by kernel_rfl) rfl ⟨rfl, rfl⟩) ?_
  have hH26 : Has E w24 [] := hH23.first 0 rfl
  refine a_w 5 rfl (by kernel_rfl) hH26 (o_callf (vs := #[x2]) ca116 rfl (args1 rfl) (plclone_c (l := v.places) hH23.all (f4.mono (seg_sub 3 rfl)) (by first | omega | (simp only []; omega) | (simp; done) | (simp; omega))) ?_)
  rintro _ w32 ⟨v27, s28, rfl, ho29, hX30⟩
  refine ⟨_, rfl, ?_⟩
  have hH31 : Has E w32 [s28, s20, [Hp.one b11 (.cells #[(.int .i64 v.id), (.int .i64 v.home), (.int .i64 v.first), (.int .i64 v.last), (.int .i64 v.state), x1, x2] 35 (0, 0))], [Hp.one b7 (.cells #[(.int .i64 0), (.int .i64 0), (.int .i64 0), (.int .i64 0), (.int .i64 0), (.slice none 0 0), (.slice none 0 0)] 35 (0, 0))], R] := hX30.of_all1
  have hH33 : Has E w32 [] := hH31.first 0 rfl
  refine a_done (by kernel_rfl) hH33 ?_
  refine r_eff 7 rfl (by kernel_rfl) (o_store1 (c' := #[(.int .i64 v.id), (.int .i64 v.home), (.int .i64 v.first), (.int .i64 v.last), (.int .i64 v.state), v19, x2]) ti22 rfl rfl ho21.one (by simp) rfl (hH31.front 2 rfl) fun w34 hH35 => ?_)
  refine r_op 8 rfl (by kernel_rfl) (o_fieldAddr (k := 6) (fun _ => by kernel_rfl) rfl ?_)
  refine r_eff 9 rfl (by kernel_rfl) (o_store1 (c' := #[(.int .i64 v.id), (.int .i64 v.home), (.int .i64 v.first), (.int .i64 v.last), (.int .i64 v.state), v19, v27]) ti33 rfl rfl ho29.one (by simp) rfl (hH35.front 0 rfl) fun w36 hH37 => ?_)
  refine Rest.done (by kernel_rfl) ?_
  refine t_norm (hK16 _ _ ?_)
  refine wp_seq_k fun K38 hK38 => ?_
  refine c_region ?_
  refine s_op (o_loadN (cs := [(.int .i64 v.id), (.int .i64 v.home), (.int .i64 v.first), (.int .i64 v.last), (.int .i64 v.state), v19, v27]) Try.underlying35 rfl ti35 rfl hH37 (seg_sub 0 rfl) (CellsAt.one rfl) ?_)
  refine s_eff (o_storeN (vs := [(.int .i64 v.id), (.int .i64 v.home), (.int .i64 v.first), (.int .i64 v.last), (.int .i64 v.state), v19, v27]) (c' := #[(.int .i64 v.id), (.int .i64 v.home), (.int .i64 v.first), (.int .i64 v.last), (.int .i64 v.state), v19, v27]) ti35 rfl rfl rfl rfl (by intro u hu; simp only [List.mem_cons, List.not_mem_nil, or_false] at hu; rcases hu with rfl | rfl | rfl | rfl | rfl | rfl | rfl <;> first | rfl | exact ho21.one | exact ho29.one) (by simp) (by kernel_rfl) (hH37.front 3 rfl) fun w39 hH40 => ?_)
  refine s_nil ?_
  refine t_norm (hK38 _ _ ?_)
  refine wp_ret ?_
  refine c_retC1 Try.results69 rfl (run_loadVarN (cs := [(.int .i64 v.id), (.int .i64 v.home), (.int .i64 v.first), (.int .i64 v.last), (.int .i64 v.state), v19, v27]) Try.underlying35 rfl ti35 hH40 (seg_sub 0 rfl) (CellsAt.one rfl)) ?_
  have hH41 : Has E w39 [s20, s28, R] := (((hH40.front 4 rfl).front 3 rfl).front 4 rfl).first 3 rfl
  exact ⟨_, _, _, _, rfl, ho21, ho29, hH41⟩
set_option maxHeartbeats 4000000 in
theorem notef_c {E w : World} {R : List Hp} {p : Int × Int} {nb : Nat} {n : Int}  (hH : Has E w [R]) (h_nb : CellsAt R nb 0 [(.int .i64 n)]) :
    Calls Try.prog 153 #[(.agg #[(.int .i64 p.1), (.int .i64 p.2)]), (.pointer (some ⟨nb, 0, none⟩))] w fun e w' => e = .returned (.bool (beyond n p)) ∧ Has E w' [R] := by
  refine c_enter (args := [(.agg #[(.int .i64 p.1), (.int .i64 p.2)]), (.pointer (some ⟨nb, 0, none⟩))]) Try.func153 rfl Try.ntmps153 (by simp) ?_
  refine wp_seq_k fun K1 hK1 => ?_
  refine c_region ?_
  refine s_op (o_box (cs := #[(.int .i64 p.1), (.int .i64 p.2)]) rfl rfl hH fun b2 w3 hH4 => ?_)
  refine s_op (o_assign (v := (.bool false)) rfl ?_)
  refine s_nil ?_
  refine t_norm (hK1 _ _ ?_)
  refine wp_seq_k fun K5 hK5 => ?_
  refine c_region ?_
  refine s_op (o_fieldAddr (k := 1) (fun _ => by kernel_rfl) rfl ?_)
  refine s_op (o_load1 (v := (.int .i64 p.2)) Try.underlying3 rfl rfl hH4 (seg_sub 0 rfl) (CellsAt.one rfl) ?_)
  refine s_op (o_load1 (v := (.int .i64 n)) Try.underlying3 rfl rfl hH4 (seg_sub 1 rfl) h_nb ?_)
  refine s_op (o_geq (a := p.2) (b := n) rfl rfl ?_)
  refine s_op (o_assign (v := (.bool (decide (n ≤ p.2)))) rfl ?_)
  refine s_nil ?_
  refine t_norm (hK5 _ _ ?_)
  refine wp_ret ?_
  refine c_ret1 Try.results153  (v := (.bool (decide (n ≤ p.2)))) rfl ?_
  have q6 : (beyond n p) = decide (n ≤ p.2) := by rfl
  have hH7 : Has E w3 [R] := (hH4.front 1 rfl).first 1 rfl
  exact ⟨by rw [q6], hH7⟩
end Go.Q
namespace Go.Q
/-- how many changes stay, where one goes back -/
def fromK (ps : List (Int × Int)) (no : List Int) : Int :=
  match no.getLast? with
  | none => 0
  | some w => match ps.reverse.find? (fun p => decide (p.1 = w)) with
    | none => -1
    | some p => p.2
def backT (t : KTab) (id : Int) (no : List Int) : List Rec × Int :=
  match getB t id with
  | none => ([], 7)
  | some k => if k.state ≠ 1 then ([], 12) else if fromK k.places no < 0 then ([], 7) else ((k.changes.drop (fromK k.places no).toNat).reverse, 0)
/-- what is so of each transaction that is known -/
structure KOk (id : Int) (k : Kn) : Prop where
  idE : k.id = id
  la : 1 ≤ k.last ∧ k.last ≤ 4611686018427387903
  pl : ∀ p ∈ k.places, 0 ≤ p.1 ∧ 0 ≤ p.2 ∧ p.2 ≤ k.changes.length
  ch : ∀ c ∈ k.changes, rightR c = true ∧ c.kind = 2 ∧ c.txn = id ∧ c.gsn ≤ k.last
def TOk (t : KTab) : Prop := ∀ p ∈ t, KOk p.1 p.2
theorem TOk.nil : TOk [] := fun p hp => by cases hp
theorem TOk.get {t : KTab} (h : TOk t) {id : Int} {k : Kn} (hg : getB t id = some k) : KOk id k := h _ (getB_memK hg)
theorem fromK_le {id : Int} {k : Kn} (h : KOk id k) (no : List Int) : -1 ≤ fromK k.places no ∧ fromK k.places no ≤ k.changes.length := by
  unfold fromK
  split
  · omega
  · split
    · omega
    · rename_i p hp
      have := h.pl p (List.mem_reverse.1 (List.mem_of_find?_eq_some hp))
      omega
theorem right_gsn {r : Rec} (h : rightR r = true) : 1 ≤ r.kind ∧ r.kind ≤ 6 ∧ 1 ≤ r.gsn ∧ r.gsn ≤ 4611686018427387903 ∧ 0 ≤ r.prev ∧ r.prev ≤ r.gsn - 1 ∧ 1 ≤ r.txn ∧ r.txn ≤ 2147483647 := by
  unfold rightR withinR at h
  simp only [Bool.and_eq_true, decide_eq_true_eq] at h
  omega
theorem right_undo4 {r : Rec} (h : rightR r = true) (hk : r.kind = 4) : 0 ≤ r.undo ∧ r.undo ≤ 255 := by
  unfold rightR undoR withinR at h
  simp only [Bool.and_eq_true, decide_eq_true_eq] at h
  have h2 := h.2
  rw [if_neg (by omega), if_pos hk] at h2
  simpa using h2
theorem KOk.new (home : Int) {r : Rec} (hr : rightR r = true) : KOk r.txn (newK home r) := ⟨rfl, by have := right_gsn hr; simp only [newK]; omega, fun p hp => (by cases hp), fun c hc => (by cases hc)⟩
theorem KOk.note {id : Int} {k : Kn} {r : Rec} (h : KOk id k) (hr : rightR r = true) (ht : r.txn = id) : KOk id (noteK k r) := by
  unfold noteK
  split
  · rename_i h0
    have hg := right_gsn hr
    have hl : r.prev = k.last := by
      unfold noteE at h0
      split at h0
      · cases h0
      · split at h0
        · cases h0
        · rename_i g; exact Classical.not_not.1 g
    have hch : ∀ c ∈ k.changes, rightR c = true ∧ c.kind = 2 ∧ c.txn = id ∧ c.gsn ≤ r.gsn := fun c hc => by
      have := h.ch c hc
      exact ⟨this.1, this.2.1, this.2.2.1, by omega⟩
    have hla : 1 ≤ r.gsn ∧ r.gsn ≤ 4611686018427387903 := by omega
    unfold stepK
    split
    · rename_i hk
      refine ⟨h.idE, hla, fun p hp => ?_, fun c hc => ?_⟩
      · have := h.pl p hp
        simp only [List.length_append, List.length_cons, List.length_nil]
        omega
      · rcases List.mem_append.1 hc with e | e
        · exact hch c e
        · rw [List.mem_singleton.1 e]; exact ⟨hr, hk, ht, Int.le_refl _⟩
    · split
      · refine ⟨h.idE, hla, fun p hp => ?_, fun c hc => hch c (List.mem_of_mem_take hc)⟩
        obtain ⟨hp1, hp2⟩ := List.mem_filter.1 hp
        have := h.pl p hp1
        simp only [beyond, Bool.not_eq_true', decide_eq_false_iff_not] at hp2
        simp only [List.length_take]
        omega
      · split
        · rename_i hk
          refine ⟨h.idE, hla, fun p hp => ?_, hch⟩
          rcases List.mem_append.1 hp with e | e
          · exact h.pl p e
          · rw [List.mem_singleton.1 e]
            have := right_undo4 hr hk
            exact ⟨this.1, by simp only; omega, Int.le_refl _⟩
        · split
          · exact ⟨h.idE, hla, h.pl, hch⟩
          · split
            · exact ⟨h.idE, hla, h.pl, hch⟩
            · exact ⟨h.idE, hla, h.pl, hch⟩
  · exact h
theorem TOk.one {t : KTab} (h : TOk t) {home : Int} {r : Rec} : TOk (oneS t home r).1 := by
  unfold oneS
  split
  · rename_i hr
    split
    · rename_i k hk
      split
      · exact h
      · intro p hp
        rcases mem_putK hp with e | e
        · exact h p e
        · rw [e]; exact (h.get hk).note hr rfl
    · split
      · intro p hp
        rcases mem_putK hp with e | e
        · exact h p e
        · rw [e]; exact KOk.new home hr
      · exact h
  · exact h
theorem TOk.noteL {home : Int} : ∀ {l : List Rec} {t : KTab}, TOk t → TOk (noteL home t l).1
  | [], _, h => h
  | r :: rs, t, h => by
    rw [Q.noteL]
    split
    · exact TOk.noteL h.one
    · exact h.one
/-! ### taken back -/
/-- behind i changes that were taken back -/
def backK (k : Kn) (i : Nat) : Kn := ⟨k.id, k.home, k.first, k.last + i, k.state, k.changes.take (k.changes.length - i), k.places.filter fun p => decide (p.2 ≤ (k.changes.length : Int) - i)⟩
theorem backK_0 {id : Int} {k : Kn} (h : KOk id k) : backK k 0 = k := by
  unfold backK
  rw [show k.places.filter (fun p => decide (p.2 ≤ (k.changes.length : Int) - (0 : Nat))) = k.places from List.filter_eq_self.2 fun p hp => by
    have := h.pl p hp
    simp only [decide_eq_true_eq]; omega]
  simp
theorem rightR_clr {c : Rec} {g p : Int} (h : rightR c = true) (hk : c.kind = 2) (hp : c.gsn ≤ p) (hpg : p < g) (hg : g ≤ 4611686018427387903) : rightR (clrR c g p) = true := by
  have h1 := right_gsn h
  unfold rightR at h ⊢
  simp only [Bool.and_eq_true] at h ⊢
  obtain ⟨⟨⟨⟨⟨⟨_, ht⟩, _⟩, _⟩, _⟩, hb⟩, _⟩ := h
  have hgs : (clrR c g p).gsn = g := rfl
  have hb2 : bodyR (clrR c g p) = true := by
    unfold bodyR at hb ⊢
    rw [if_pos (by unfold chgR; simp [hk])] at hb
    rw [if_pos (by unfold chgR clrR; simp)]
    simp only [Bool.and_eq_true, Bool.not_eq_true'] at hb ⊢
    refine ⟨⟨hb.1.1, hb.1.2.2, hb.1.2.1⟩, decide_eq_false fun e => (of_decide_eq_false hb.2) ⟨e.1.symm, e.2.symm⟩⟩
  refine ⟨⟨⟨⟨⟨⟨by simp [clrR, withinR], ht⟩, ?_⟩, ?_⟩, ?_⟩, hb2⟩, ?_⟩
  · show withinR g _ _ = true; simp only [withinR, Bool.and_eq_true, decide_eq_true_eq]; omega
  · show withinR p _ (g - 1) = true; simp only [withinR, Bool.and_eq_true, decide_eq_true_eq]; omega
  · exact decide_eq_true (show p = 0 ↔ (3 : Int) = 1 from ⟨fun e => by omega, fun e => by omega⟩)
  · show withinR c.gsn 1 p = true; simp only [withinR, Bool.and_eq_true, decide_eq_true_eq]; omega
theorem takes_clr {c : Rec} {g p : Int} (h : rightR c = true) (hk : c.kind = 2) (hr : rightR (clrR c g p) = true) : takesR (clrR c g p) c = true := by
  rw [takesR_iff]
  show clrR c g p = backR c g p
  unfold backR
  rw [if_pos ⟨h, hk⟩, if_pos hr]
theorem backK_step {id : Int} {k : Kn} (h : KOk id k) (hs : k.state = 1) {i : Nat} {c : Rec} (hi : i < k.changes.length) (hc : k.changes[k.changes.length - 1 - i]? = some c) (hg : k.last + i + 1 ≤ 4611686018427387903) :
    rightR (clrR c (k.last + i + 1) (k.last + i)) = true ∧ noteE (backK k i) (clrR c (k.last + i + 1) (k.last + i)) = 0 ∧ noteK (backK k i) (clrR c (k.last + i + 1) (k.last + i)) = backK k (i + 1) := by
  have hcm := h.ch c (List.mem_of_getElem? hc)
  have hr : rightR (clrR c (k.last + i + 1) (k.last + i)) = true := rightR_clr hcm.1 hcm.2.1 (by have := hcm.2.2.2; omega) (by omega) hg
  have hlen : (k.changes.take (k.changes.length - i)).length = k.changes.length - i := by simp
  have hla : (k.changes.take (k.changes.length - i)).getLast? = some c := by
    rw [List.getLast?_eq_getElem?, hlen, List.getElem?_take, if_pos (by omega), ← hc]
    congr 1; omega
  have h0 : noteE (backK k i) (clrR c (k.last + i + 1) (k.last + i)) = 0 := by
    unfold noteE
    rw [if_neg (by simp [backK, hs]), if_neg (by simp [backK, clrR])]
    rw [if_neg]
    intro e
    have e2 := e.2
    simp only [backK, hla, takes_clr hcm.1 hcm.2.1 hr] at e2
    simp at e2
  refine ⟨hr, h0, ?_⟩
  unfold noteK
  rw [if_pos h0]
  unfold stepK
  rw [if_neg (by simp [clrR]), if_pos (by simp [clrR])]
  unfold backK
  simp only [hlen, clrR, Kn.mk.injEq, true_and]
  refine ⟨by omega, ?_, ?_⟩
  · rw [List.take_take]; congr 1; omega
  · rw [List.filter_filter]
    congr 1; funext p
    simp only [beyond]
    rw [Bool.eq_iff_iff]
    simp only [Bool.and_eq_true, Bool.not_eq_true', decide_eq_false_iff_not, decide_eq_true_eq]
    omega
theorem find_filter {α : Type} {q f : α → Bool} {x : α} : ∀ {l : List α}, l.find? q = some x → f x = true → (l.filter f).find? q = some x
  | [], h, _ => by simp at h
  | a :: t, h, hf => by
    rw [List.find?_cons] at h
    split at h
    · rename_i hq; cases h
      rw [List.filter_cons, if_pos hf, List.find?_cons, hq]
    · rename_i hq
      rw [List.filter_cons]
      split
      · rw [List.find?_cons, hq]; exact find_filter h hf
      · exact find_filter h hf
theorem fromK_back {k : Kn} {no : Int} {n : Int} (h : fromK k.places [no] = n) (h0 : 0 ≤ n) (hn : n ≤ k.changes.length) : fromK (backK k (k.changes.length - n.toNat)).places [no] = n := by
  unfold fromK at h ⊢
  simp only [List.getLast?_singleton] at h ⊢
  split at h
  · omega
  · rename_i p hp
    have hf : ((k.places.filter fun p => decide (p.2 ≤ (k.changes.length : Int) - ((k.changes.length - n.toNat : Nat) : Int))).reverse.find? fun p => decide (p.1 = no)) = some p := by
      rw [← List.filter_reverse]
      exact find_filter hp (by simp only [decide_eq_true_eq]; omega)
    simp only [backK]
    rw [hf]
    exact h
theorem backT_ok {t : KTab} {id : Int} {no : List Int} (h : (backT t id no).2 = 0) : ∃ k, getB t id = some k ∧ k.state = 1 ∧ 0 ≤ fromK k.places no ∧ (backT t id no).1 = (k.changes.drop (fromK k.places no).toNat).reverse := by
  unfold backT at h ⊢
  split at h
  · cases h
  · rename_i k hk
    split at h
    · cases h
    · rename_i hs
      split at h
      · cases h
      · rename_i hf
        exact ⟨k, hk, by omega, by omega, by rw [if_neg hs, if_neg hf]⟩
theorem back_mem {t : KTab} (ht : TOk t) {id : Int} {no : List Int} : ∀ c ∈ (backT t id no).1, rightR c = true ∧ c.kind = 2 := fun c hc => by
  unfold backT at hc
  split at hc
  · cases hc
  · rename_i k hk
    split at hc
    · cases hc
    · split at hc
      · cases hc
      · have := (ht.get hk).ch c (List.mem_of_mem_drop (List.mem_reverse.1 hc))
        exact ⟨this.1, this.2.1⟩
theorem oneS_back {t : KTab} {id : Int} {k : Kn} (h : KOk id k) (hs : k.state = 1) {i : Nat} {c : Rec} (hi : i < k.changes.length) (hc : k.changes[k.changes.length - 1 - i]? = some c) (hg : k.last + i + 1 ≤ 4611686018427387903) (hgt : getB t id = some (backK k i)) (home : Int) :
    oneS t home (clrR c (k.last + i + 1) (k.last + i)) = (putB t id (backK k (i + 1)), 0) := by
  obtain ⟨h1, h2, h3⟩ := backK_step h hs hi hc hg
  have hid : (clrR c (k.last + i + 1) (k.last + i)).txn = id := (h.ch c (List.mem_of_getElem? hc)).2.2.1
  unfold oneS
  rw [if_pos h1, hid, hgt]
  simp only
  rw [if_neg (by simp [clrR]), h2, h3]
theorem szK.nil : szK [] 0 := fun p hp => by cases hp
theorem szK.noteL {home : Int} : ∀ {l : List Rec} {t : KTab} {n : Nat}, szK t n → szK (noteL home t l).1 (n + l.length)
  | [], _, _, h => h
  | r :: rs, t, n, h => by
    rw [Q.noteL]
    split
    · exact (szK.noteL (l := rs) (h.one (home := home) (r := r))).mono (by simp only [List.length_cons]; omega)
    · exact (h.one (home := home) (r := r)).mono (by simp only [List.length_cons]; omega)
theorem mem_of_drop {α : Type} {lw B : List α} {k : Nat} {x : α} (h : lw.drop k = B.drop k) (hx : lw[k]? = some x) : x ∈ B := by
  have h2 : B[k]? = some x := by
    have e := congrArg (fun l : List α => l[0]?) h
    simp only [List.getElem?_drop, Nat.add_zero] at e
    rw [← e]; exact hx
  exact List.mem_of_getElem? h2
theorem pl_ok {t : KTab} (h : TOk t) {id : Int} {p : Int × Int} (hp : p ∈ ((getB t id).map (·.places)).getD []) : 0 ≤ p.1 := by
  cases hg : getB t id with
  | none => rw [hg] at hp; cases hp
  | some k => rw [hg] at hp; exact ((h.get hg).pl p hp).1
theorem rev_drop {l : List Rec} {m i : Nat} {c : Rec} (h : ((l.drop m).reverse)[i]? = some c) : i < l.length - m ∧ l[l.length - 1 - i]? = some c := by
  have hl : i < l.length - m := by have := (List.getElem?_eq_some_iff.1 h).1; simpa using this
  refine ⟨hl, ?_⟩
  rw [List.getElem?_reverse (by simpa using hl), List.getElem?_drop] at h
  rw [← h]; congr 1; simp only [List.length_drop]; omega
theorem back_one {t : KTab} {id : Int} {k : Kn} (h : KOk id k) (hs : k.state = 1) {m i : Nat} {c r : Rec} (hc : ((k.changes.drop m).reverse)[i]? = some c) (hg : k.last + i + 1 ≤ 4611686018427387903) (hgt : getB t id = some (backK k i)) (home : Int) (hr : r = clrR c (k.last + i + 1) (k.last + i)) :
    noteL home t [r] = (putB t id (backK k (i + 1)), 0) := by
  obtain ⟨h1, h2⟩ := rev_drop hc
  rw [hr, noteL, oneS_back h hs (by omega) h2 hg hgt home]
  rfl
theorem back_end {t : KTab} {id no : Int} {k : Kn} (h : KOk id k) (hs : k.state = 1) (hf : 0 ≤ fromK k.places [no]) (hgt : getB t id = some (backK k (k.changes.length - (fromK k.places [no]).toNat))) : backT t id [no] = ([], 0) := by
  have hle := fromK_le h [no]
  have hb := fromK_back (k := k) (no := no) rfl hf hle.2
  unfold backT
  rw [hgt]
  simp only
  rw [if_neg (by simp [backK, hs]), hb, if_neg (by omega)]
  simp only [backK, Prod.mk.injEq, and_true]
  rw [List.drop_of_length_le (by simp only [List.length_take]; omega)]
  rfl
theorem at_gsn {L : List Rec} {i : Nat} {x : Rec} (h : L[i]? = some x) : x.gsn = (L[i]?.getD rec0).gsn := by rw [h]; rfl
/-! ### the example -/
def awL17 : List Rec := [⟨1, 1, 5, 0, 0, [], false, [], false, [], 0⟩, ⟨2, 2, 5, 1, 0, [97], false, [], true, [120], 0⟩, ⟨4, 4, 5, 2, 0, [], false, [], false, [], 0⟩, ⟨2, 5, 5, 4, 0, [97], true, [120], true, [121], 0⟩]
def awT17 : KTab := (noteL 0 [] awL17).1
theorem aw17_e : (noteL 0 [] awL17).2 = 0 := by decide +kernel
theorem aw17_a : (backT awT17 5 [0]).1.length = 1 := by decide +kernel
theorem aw17_f : (backT awT17 5 [0]).2 = 0 := by decide +kernel
theorem aw17_b : (backT awT17 5 []).1.length = 2 := by decide +kernel
theorem aw17_g : (backT awT17 5 []).2 = 0 := by decide +kernel
theorem aw17_a0 {x : Rec} (h : (backT awT17 5 [0]).1[0]? = some x) : x.gsn = 5 := (at_gsn h).trans (by decide +kernel)
theorem aw17_b1 {x : Rec} (h : (backT awT17 5 []).1[1]? = some x) : x.gsn = 2 := (at_gsn h).trans (by decide +kernel)
end Go.Q
namespace Go.Q
open Go.Proofs
set_option linter.unusedVariables false
set_option maxRecDepth 100000
attribute [local irreducible] wpList OK Code.wp
set_option maxHeartbeats 4000000 in
theorem from0_c {E w : World} {R : List Hp} {kb : Nat} {v_no : Value} (hH : Has E w [R]) (h_no : Sl R 1 v_no ([] : List Int).length (([] : List Int).map iV)) :
    Calls Try.prog 70 #[(.pointer (some ⟨kb, 0, none⟩)), v_no] w fun e w' => e = .returned (.int .i64 0) ∧ Has E w' [R] := by
  refine c_enter (args := [(.pointer (some ⟨kb, 0, none⟩)), v_no]) Try.func70 rfl Try.ntmps70 (by simp) ?_
  refine wp_seq_k fun K1 hK1 => ?_
  refine c_region ?_
  refine s_op (o_box (cs := #[v_no]) rfl (cells_one h_no.one) hH fun b2 w3 hH4 => ?_)
  refine s_op (o_alloc (cs := #[(.int .i64 0)]) ti3 rfl hH4 fun b5 w6 hH7 => ?_)
  refine s_nil ?_
  refine t_norm (hK1 _ _ ?_)
  refine wp_seq_k fun K8 hK8 => ?_
  refine wp_seq_k fun K9 hK9 => ?_
  refine c_region ?_
  refine s_op (o_load1 (v := v_no) Try.underlying54 rfl rfl hH7 (seg_sub 1 rfl) (CellsAt.one rfl) ?_)
  refine s_op (o_lenS Try.underlying54 rfl h_no ?_)
  refine s_op (o_eql (a := ((([] : List Int).length : Nat) : Int)) (b := 0) rfl rfl ?_)
  refine s_nil ?_
  refine t_norm (hK9 _ _ ?_)
  refine c_cond rfl (fun h10 => ?_) (fun h10 => ?_)
  · -- ((([] : List Int).length : Nat) : Int) = 0
    refine wp_seq_k fun K11 hK11 => ?_
    refine c_region ?_
    refine s_eff (o_store1 (c' := #[(.int .i64 0)]) ti3 rfl rfl rfl (by simp) rfl (hH7.front 0 rfl) fun w12 hH13 => ?_)
    refine s_nil ?_
    refine t_norm (hK11 _ _ ?_)
    refine wp_ret ?_
    refine t_ret (c_retC1 Try.results70 rfl (run_loadVar1 (v := (.int .i64 0)) Try.underlying3 rfl hH13 (seg_sub 0 rfl) (CellsAt.one rfl)) ?_)
    have hH14 : Has E w12 [R] := (hH13.front 2 rfl).first 1 rfl
    exact ⟨rfl, hH14⟩
  · -- not: ((([] : List Int).length : Nat) : Int) = 0
    exact absurd (by simp) h10
theorem tm_cell {E w : World} {ss : List (List Hp)} (H : Has E w ss) {L : List Hp} (hL : L ⊆ ss.flatten) {b off : Nat} {zs : List (Int × Int)} (hc : CellsAt L b off (zs.flatMap tmC)) (j : Nat) (hj : j < zs.length) :
    w.cell? ⟨b, off + j * 2, none⟩ = some (.int .i64 (zs[j]?.getD (0, 0)).1) ∧ w.cell? ⟨b, off + j * 2 + 1, none⟩ = some (.int .i64 (zs[j]?.getD (0, 0)).2) := by
  have hx : zs[j]? = some zs[j] := List.getElem?_eq_getElem hj
  have hp := flat_part (f := tmC) (sz := 2) (fun _ => rfl) zs j zs[j] hx
  have h0 : (zs.flatMap tmC)[j * 2]? = some (iV zs[j].1) := by
    have := congrArg (fun l => l[0]?) hp
    simpa [List.getElem?_take, List.getElem?_drop, tmC] using this
  have h1 : (zs.flatMap tmC)[j * 2 + 1]? = some (iV zs[j].2) := by
    have := congrArg (fun l => l[1]?) hp
    simpa [List.getElem?_take, List.getElem?_drop, tmC] using this
  rw [hx]
  exact ⟨H.cell hL hc h0, by rw [Nat.add_assoc]; exact H.cell hL hc h1⟩
theorem bw_rev (zs : List (Int × Int)) (k : Nat) (hk : k ≤ zs.length) : (bwUpto (bwAt zs) k).map (·.2) = zs.reverse.take k := by
  induction k with
  | zero => simp [bwUpto]
  | succ k ih =>
    rw [bwUpto_succ, List.map_append, ih (by omega), List.take_succ_eq_append_getElem (by simp; omega)]
    congr 1
    simp [bwAt, List.getElem_reverse, List.getElem?_eq_getElem (show zs.length - 1 - k < zs.length by omega)]
theorem from_eqK {zs : List (Int × Int)} {want r : Int} (h : ∃ k, k ≤ zs.length ∧ bwFind want (bwUpto (bwAt zs) k) ∧ ((k = zs.length ∧ r = -1) ∨ (∃ x, x = bwAt zs k ∧ k < zs.length ∧ x.2.1 = want ∧ r = x.2.2))) {no : List Int} (hno : no.getLast? = some want) : r = fromK zs no := by
  obtain ⟨k, hk, hf, h⟩ := h
  have hf2 : ∀ p ∈ zs.reverse.take k, decide (p.1 = want) = false := fun p hp => by
    rw [← bw_rev zs k hk] at hp
    obtain ⟨x, hx, rfl⟩ := List.mem_map.1 hp
    exact decide_eq_false (hf x hx)
  unfold fromK
  rw [hno]
  simp only
  have hsp : zs.reverse = zs.reverse.take k ++ zs.reverse.drop k := (List.take_append_drop _ _).symm
  have hnone : (zs.reverse.take k).find? (fun p => decide (p.1 = want)) = none := List.find?_eq_none.2 fun p hp => by rw [hf2 p hp]; simp
  rcases h with ⟨rfl, rfl⟩ | ⟨x, rfl, hlt, hx, rfl⟩
  · rw [List.take_of_length_le (by simp)] at hnone
    rw [hnone]
  · have hget : zs.reverse.drop k = (bwAt zs k).2 :: zs.reverse.drop (k + 1) := by
      rw [List.drop_eq_getElem_cons (by simpa using hlt)]
      congr 1
      simp [bwAt, List.getElem_reverse, List.getElem?_eq_getElem (show zs.length - 1 - k < zs.length by omega)]
    rw [hsp, List.find?_append, hnone, hget, List.find?_cons, show decide ((bwAt zs k).2.1 = want) = true from decide_eq_true hx]
    rfl
theorem from_c {E w : World} {R : List Hp} {kb : Nat} {v : Kn} {v_no : Value} {no : List Int} (hH : Has E w [R]) (h_kb : KnRd R kb v) (h_no : Sl R 1 v_no no.length (no.map iV)) (hn : v.places.length ≤ 1000 ∧ no.length ≤ 1000) :
    Calls Try.prog 70 #[.pointer (some ⟨kb, 0, none⟩), v_no] w fun e w' => e = .returned (.int .i64 (fromK v.places no)) ∧ Has E w' [R] := by
  rcases Nat.eq_zero_or_pos no.length with h0 | h0
  · obtain rfl := List.eq_nil_of_length_eq_zero h0
    exact from0_c hH h_no
  · obtain ⟨x5, x6, hc, h5, h6⟩ := h_kb
    obtain ⟨p, cap, rfl, a1, a2, a3, a4⟩ := h_no
    obtain ⟨nb, noff, rfl, hnc⟩ := a4 h0
    obtain ⟨q, cap6, rfl, b1, b2, b3, b4⟩ := h6
    have hlast : no.getLast? = some (no.getLast (List.ne_nil_of_length_pos h0)) := List.getLast?_eq_some_getLast _
    have hcell : w.cell? ⟨nb, noff + (no.length - 1), none⟩ = some (.int .i64 (no.getLast (List.ne_nil_of_length_pos h0))) :=
      hH.cell (show R ⊆ [R].flatten by simp) hnc (by rw [List.getElem?_map, ← List.getLast?_eq_getElem?, hlast]; rfl)
    have hR : R ⊆ [R].flatten := by simp
    refine (callsIn_wide.1 (from_in 3 (Nat.le_refl _) kb nb noff no.length cap undef undef undef undef undef undef q v.places.length cap6 v.places (no.getLast (List.ne_nil_of_length_pos h0)) (by omega) w (CellsAt.lt hH hR hc) (hH.cell (j := 6) hR hc rfl) ?_ (CellsAt.lt hH hR hnc) h0 (by omega) hcell)).mono ?_
    · rcases Nat.eq_zero_or_pos v.places.length with g | g
      · exact .inl ⟨⟨q, cap6, by rw [g]⟩, List.eq_nil_of_length_eq_zero g⟩
      · obtain ⟨pb, poff, rfl, hpc⟩ := b4 g
        exact .inr ⟨pb, poff, cap6, rfl, CellsAt.lt hH hR hpc, fun j hj => tm_cell hH hR hpc j hj⟩
    · rintro e W' ⟨⟨k, hk, hf, h⟩, hbel⟩
      refine ⟨?_, hH.of_bel hbel⟩
      rcases h with ⟨rfl, rfl⟩ | ⟨x, hx, hlt, hw, rfl⟩
      · rw [← from_eqK ⟨_, hk, hf, .inl ⟨rfl, rfl⟩⟩ hlast]
      · rw [← from_eqK ⟨_, hk, hf, .inr ⟨x, hx, hlt, hw, rfl⟩⟩ hlast]
end Go.Q
namespace Go.Q
open Go.Proofs
set_option linter.unusedVariables false
set_option maxRecDepth 100000
attribute [local irreducible] wpList OK Code.wp
set_option maxHeartbeats 4000000 in
theorem note_c {E w : World} {R : List Hp} {kb : Nat} {sg_kb : List Hp} {v : Kn} {r : Rec}  (hH : Has E w [sg_kb, R]) (h_kb : KnAt kb sg_kb v) (hn : v.changes.length ≤ 1000 ∧ v.places.length ≤ 1000) :
    Calls Try.prog 115 #[(.pointer (some ⟨kb, 0, none⟩)), (.agg #[(.int .i64 r.kind), (.int .i64 r.gsn), (.int .i64 r.txn), (.int .i64 r.prev), (.int .i64 r.page), (S r.key), (.bool r.bh), (S r.bv), (.bool r.ah), (S r.av), (.int .i64 r.undo)])] w fun e w' => ∃ (sg_kb' : List Hp), e = .returned (.int .i64 (noteE v r)) ∧ (KnAt kb sg_kb' (noteK v r)) ∧ Has E w' [sg_kb', R] := by
  obtain ⟨hn1_, hn2_⟩ := hn
  obtain ⟨x1, x2, s3, s4, rfl, f5, f6⟩ := h_kb
  have hH7 : Has E w [[Hp.one kb (.cells #[(.int .i64 v.id), (.int .i64 v.home), (.int .i64 v.first), (.int .i64 v.last), (.int .i64 v.state), x1, x2] 130 (0, 0))], s3, s4, R] := Has.op3 hH
  refine c_enter (args := [(.pointer (some ⟨kb, 0, none⟩)), (.agg #[(.int .i64 r.kind), (.int .i64 r.gsn), (.int .i64 r.txn), (.int .i64 r.prev), (.int .i64 r.page), (S r.key), (.bool r.bh), (S r.bv), (.bool r.ah), (S r.av), (.int .i64 r.undo)])]) Try.func115 rfl Try.ntmps115 (by simp) ?_
  refine wp_seq_k fun K8 hK8 => ?_
  refine c_region ?_
  refine s_op (o_box (cs := #[(.int .i64 r.kind), (.int .i64 r.gsn), (.int .i64 r.txn), (.int .i64 r.prev), (.int .i64 r.page), (S r.key), (.bool r.bh), (S r.bv), (.bool r.ah), (S r.av), (.int .i64 r.undo)]) rfl rfl hH7 fun b9 w10 hH11 => ?_)
  refine s_op (o_assign (v := (.int .i64 0)) rfl ?_)
  refine s_nil ?_
  refine t_norm (hK8 _ _ ?_)
  refine wp_seq_k fun K12 hK12 => ?_
  refine wp_block ?_
  refine wp_seq_k fun K13 hK13 => ?_
  refine c_region ?_
  refine s_op (o_move (v := (.pointer (some ⟨kb, 0, none⟩))) rfl ?_)
  refine s_op (o_nilCheck rfl ?_)
  refine s_op (o_fieldAddr (k := 0) (fun _ => by kernel_rfl) rfl ?_)
  refine s_op (o_fieldAddr (k := 4) (fun _ => by kernel_rfl) rfl ?_)
  refine s_op (o_load1 (v := (.int .i64 v.state)) Try.underlying3 rfl rfl hH11 (seg_sub 1 rfl) (CellsAt.one rfl) ?_)
  refine s_op (o_neq (a := v.state) (b := 1) rfl rfl ?_)
  refine s_op (o_assign (v := (.bool (decide (v.state ≠ 1)))) rfl ?_)
  refine s_nil ?_
  refine t_norm (hK13 _ _ ?_)
  refine c_cond rfl (fun h14 => ?_) (fun h14 => ?_)
  · -- v.state ≠ 1
    refine wp_seq_k fun K15 hK15 => ?_
    refine c_region ?_
    refine s_op (o_assign (v := (.int .i64 12)) rfl ?_)
    refine s_nil ?_
    refine t_norm (hK15 _ _ ?_)
    refine wp_ret ?_
    refine b_ret (t_ret (c_ret1 Try.results115  (v := (.int .i64 12)) rfl ?_))
    have q16 : (noteE v r) = 12 := by unfold noteE; simp [h14]
    have hH17 : Has E w10 [([Hp.one kb (.cells #[(.int .i64 v.id), (.int .i64 v.home), (.int .i64 v.first), (.int .i64 v.last), (.int .i64 v.state), x1, x2] 130 (0, 0))] ++ (s3 ++ s4)), [Hp.one b9 (.cells #[(.int .i64 r.kind), (.int .i64 r.gsn), (.int .i64 r.txn), (.int .i64 r.prev), (.int .i64 r.page), (S r.key), (.bool r.bh), (S r.bv), (.bool r.ah), (S r.av), (.int .i64 r.undo)] 32 (0, 0))], R] := Has.cl3 (((hH11.front 3 rfl).front 3 rfl).front 3 rfl)
    have hd18 : KnAt kb ([Hp.one kb (.cells #[(.int .i64 v.id), (.int .i64 v.home), (.int .i64 v.first), (.int .i64 v.last), (.int .i64 v.state), x1, x2] 130 (0, 0))] ++ (s3 ++ s4)) v := KnAt.mk (v := v) f5 f6
    have q19 : (noteK v r) = v := by unfold noteK noteE stepK; simp [h14]
    have hH20 : Has E w10 [([Hp.one kb (.cells #[(.int .i64 v.id), (.int .i64 v.home), (.int .i64 v.first), (.int .i64 v.last), (.int .i64 v.state), x1, x2] 130 (0, 0))] ++ (s3 ++ s4)), R] := ((hH17.front 2 rfl).front 1 rfl).first 2 rfl
    exact ⟨_, by rw [q16], (by rw [q19]; exact hd18), hH20⟩
  · -- not: v.state ≠ 1
    refine wp_seq_k fun K21 hK21 => ?_
    refine Rest.region mixed (by kernel_rfl) ?_
    have hH22 : Has E { w10 with drawn := w10.drawn + 1 } [[Hp.one b9 (.cells #[(.int .i64 r.kind), (.int .i64 r.gsn), (.int .i64 r.txn), (.int .i64 r.prev), (.int .i64 r.page), (S r.key), (.bool r.bh), (S r.bv), (.bool r.ah), (S r.av), (.int .i64 r.undo)] 32 (0, 0))], [Hp.one kb (.cells #[(.int .i64 v.id), (.int .i64 v.home), (.int .i64 v.first), (.int .i64 v.last), (.int .i64 v.state), x1, x2] 130 (0, 0))], s3, s4, R] := Has0.drew hH11 _
    refine Rest.phaseA (fun w_ => Has E w_ [[Hp.one b9 (.cells #[(.int .i64 r.kind), (.int .i64 r.gsn), (.int .i64 r.txn), (.int .i64 r.prev), (.int .i64 r.page), (S r.key), (.bool r.bh), (S r.bv), (.bool r.ah), (S r.av), (.int .i64 r.undo)] 32 (0, 0))], [Hp.one kb (.cells #[(.int .i64 v.id), (.int .i64 v.home), (.int .i64 v.first), (.int .i64 v.last), (.int .i64 v.state), x1, x2] 130 (0, 0))]]) 0 7 7 rfl (by decide) (by kernel_rfl) ?_
    refine a_op 0 rfl (by kernel_rfl) (fun w_ h_ => o_fieldAddr (k := 3) (fun _ => by kernel_rfl) rfl ⟨rfl, rfl⟩) ?_
    refine a_op 1 rfl (by kernel_rfl) (fun w_ h_ => o_load1 (v := (.int .i64 r.prev)) Try.underlying3 rfl rfl h_ (seg_sub 0 rfl) (CellsAt.one rfl) ⟨rfl, rfl⟩) ?_
    refine a_op 2 rfl (by kernel_rfl) (fun w_ h_ => o_move (v := (.pointer (some ⟨kb, 0, none⟩))) rfl ⟨rfl, rfl⟩) ?_
    refine a_op 3 rfl (by kernel_rfl) (fun w_ h_ => o_nilCheck rfl ⟨rfl, rfl⟩) ?_
    refine a_op 4 rfl (by kernel_rfl) (fun w_ h_ => o_fieldAddr (k := 0) (fun _ => by kernel_rfl) rfl ⟨rfl, rfl⟩) ?_
    refine a_op 5 rfl (by kernel_rfl) (fun w_ h_ => o_fieldAddr (k := 3) (fun _ => by kernel_rfl) rfl ⟨rfl, rfl⟩) ?_
    refine a_op 6 rfl (by kernel_rfl) (fun w_ h_ => o_load1 (v := (.int .i64 v.last)) Try.underlying3 rfl rfl h_ (seg_sub 1 rfl) (CellsAt.one rfl) ⟨rfl, rfl⟩) ?_
    have hH23 : Has E { w10 with drawn := w10.drawn + 1 } [[Hp.one b9 (.cells #[(.int .i64 r.kind), (.int .i64 r.gsn), (.int .i64 r.txn), (.int .i64 r.prev), (.int .i64 r.page), (S r.key), (.bool r.bh), (S r.bv), (.bool r.ah), (S r.av), (.int .i64 r.undo)] 32 (0, 0))], [Hp.one kb (.cells #[(.int .i64 v.id), (.int .i64 v.home), (.int .i64 v.first), (.int .i64 v.last), (.int .i64 v.state), x1, x2] 130 (0, 0))]] := ((hH22.front 1 rfl).front 1 rfl).first 2 rfl
    refine a_done (by kernel_rfl) hH23 ?_
    refine r_op 7 rfl (by kernel_rfl) (o_neq (a := r.prev) (b := v.last) rfl rfl ?_)
    refine r_op 8 rfl (by kernel_rfl) (o_assign (v := (.bool (decide (r.prev ≠ v.last)))) rfl ?_)
    refine Rest.done (by kernel_rfl) ?_
    refine t_norm (hK21 _ _ ?_)
    refine c_cond rfl (fun h24 => ?_) (fun h24 => ?_)
    · -- r.prev ≠ v.last
      refine wp_seq_k fun K25 hK25 => ?_
      refine c_region ?_
      refine s_op (o_assign (v := (.int .i64 1)) rfl ?_)
      refine s_nil ?_
      refine t_norm (hK25 _ _ ?_)
      refine wp_ret ?_
      refine b_ret (t_ret (c_ret1 Try.results115  (v := (.int .i64 1)) rfl ?_))
      have q26 : (noteE v r) = 1 := by unfold noteE; simp [h14, h24]
      have hH27 : Has E { w10 with drawn := w10.drawn + 1 } [([Hp.one kb (.cells #[(.int .i64 v.id), (.int .i64 v.home), (.int .i64 v.first), (.int .i64 v.last), (.int .i64 v.state), x1, x2] 130 (0, 0))] ++ (s3 ++ s4)), [Hp.one b9 (.cells #[(.int .i64 r.kind), (.int .i64 r.gsn), (.int .i64 r.txn), (.int .i64 r.prev), (.int .i64 r.page), (S r.key), (.bool r.bh), (S r.bv), (.bool r.ah), (S r.av), (.int .i64 r.undo)] 32 (0, 0))], R] := Has.cl3 (((hH22.front 3 rfl).front 3 rfl).front 3 rfl)
      have hd28 : KnAt kb ([Hp.one kb (.cells #[(.int .i64 v.id), (.int .i64 v.home), (.int .i64 v.first), (.int .i64 v.last), (.int .i64 v.state), x1, x2] 130 (0, 0))] ++ (s3 ++ s4)) v := KnAt.mk (v := v) f5 f6
      have q29 : (noteK v r) = v := by unfold noteK noteE stepK; simp [h14, h24]
      have hH30 : Has E { w10 with drawn := w10.drawn + 1 } [([Hp.one kb (.cells #[(.int .i64 v.id), (.int .i64 v.home), (.int .i64 v.first), (.int .i64 v.last), (.int .i64 v.state), x1, x2] 130 (0, 0))] ++ (s3 ++ s4)), R] := ((hH27.front 2 rfl).front 1 rfl).first 2 rfl
      exact ⟨_, by rw [q26], (by rw [q29]; exact hd28), hH30⟩
    · -- not: r.prev ≠ v.last
      refine wp_skip ?_
      refine b_norm ?_
      refine t_norm (hK12 _ _ ?_)
      refine wp_seq_k fun K31 hK31 => ?_
      refine c_region ?_
      refine s_op (o_move (v := (.pointer (some ⟨kb, 0, none⟩))) rfl ?_)
      refine s_op (o_nilCheck rfl ?_)
      refine s_op (o_fieldAddr (k := 0) (fun _ => by kernel_rfl) rfl ?_)
      refine s_op (o_fieldAddr (k := 5) (fun _ => by kernel_rfl) rfl ?_)
      refine s_op (o_load1 (v := x1) Try.underlying22 rfl rfl hH22 (seg_sub 1 rfl) (CellsAt.one rfl) ?_)
      refine s_op (o_lenS Try.underlying22 rfl f5.sl ?_)
      refine s_op (o_alloc (cs := #[(.int .i64 0)]) ti3 rfl hH22 fun b32 w33 hH34 => ?_)
      refine s_eff (o_store1 (c' := #[(.int .i64 ((v.changes.length : Nat) : Int))]) ti3 rfl rfl rfl (by simp) rfl (hH34.front 0 rfl) fun w35 hH36 => ?_)
      refine s_nil ?_
      refine t_norm (hK31 _ _ ?_)
      refine wp_seq_k fun K37 hK37 => ?_
      refine wp_seq_k fun K38 hK38 => ?_
      refine c_region ?_
      refine s_op (o_fieldAddr (k := 0) (fun _ => by kernel_rfl) rfl ?_)
      refine s_op (o_load1 (v := (.int .i64 r.kind)) Try.underlying3 rfl rfl hH36 (seg_sub 1 rfl) (CellsAt.one rfl) ?_)
      refine s_nil ?_
      refine t_norm (hK38 _ _ ?_)
      refine wp_block ?_
      refine wp_seq_k fun K39 hK39 => ?_
      refine c_region ?_
      refine s_op (o_eql (a := r.kind) (b := 2) rfl rfl ?_)
      refine s_op (o_assign (v := (.bool (decide (r.kind = 2)))) rfl ?_)
      refine s_nil ?_
      refine t_norm (hK39 _ _ ?_)
      refine c_cond rfl (fun h40 => ?_) (fun h40 => ?_)
      · -- r.kind = 2
        refine Rest.region mixed (by kernel_rfl) ?_
        have hH41 : Has E { w35 with drawn := w35.drawn + 1 } [[Hp.one b32 (.cells #[(.int .i64 ((v.changes.length : Nat) : Int))] 3 (0, 0))], [Hp.one b9 (.cells #[(.int .i64 r.kind), (.int .i64 r.gsn), (.int .i64 r.txn), (.int .i64 r.prev), (.int .i64 r.page), (S r.key), (.bool r.bh), (S r.bv), (.bool r.ah), (S r.av), (.int .i64 r.undo)] 32 (0, 0))], [Hp.one kb (.cells #[(.int .i64 v.id), (.int .i64 v.home), (.int .i64 v.first), (.int .i64 v.last), (.int .i64 v.state), x1, x2] 130 (0, 0))], s3, s4, R] := Has0.drew hH36 _
        refine Rest.phaseA (fun w_ => Has E w_ [[Hp.one b9 (.cells #[(.int .i64 r.kind), (.int .i64 r.gsn), (.int .i64 r.txn), (.int .i64 r.prev), (.int .i64 r.page), (S r.key), (.bool r.bh), (S r.bv), (.bool r.ah), (S r.av), (.int .i64 r.undo)] 32 (0, 0))], [Hp.one kb (.cells #[(.int .i64 v.id), (.int .i64 v.home), (.int .i64 v.first), (.int .i64 v.last), (.int .i64 v.state), x1, x2] 130 (0, 0))]]) 0 9 9 rfl (by decide) (by kernel_rfl) ?_
        refine a_op 0 rfl (by kernel_rfl) (fun w_ h_ => o_move (v := (.pointer (some ⟨kb, 0, none⟩))) rfl ⟨rfl, rfl⟩) ?_
        refine a_op 1 rfl (by kernel_rfl) (fun w_ h_ => o_move (v := (.pointer (some ⟨kb, 0, none⟩))) rfl ⟨rfl, rfl⟩) ?_
        refine a_op 2 rfl (by kernel_rfl) (fun w_ h_ => o_nilCheck rfl ⟨rfl, rfl⟩) ?_
        refine a_op 3 rfl (by kernel_rfl) (fun w_ h_ => o_fieldAddr (k := 0) (fun _ => by kernel_rfl) rfl ⟨rfl, rfl⟩) ?_
        refine a_op 4 rfl (by kernel_rfl) (fun w_ h_ => o_fieldAddr (k := 5) (fun _ => by kernel_rfl) rfl ⟨rfl, rfl⟩) ?_
        refine a_op 5 rfl (by kernel_rfl) (fun w_ h_ => o_load1 (v := x1) Try.underlying22 rfl rfl h_ (seg_sub 1 rfl) (CellsAt.one rfl) ⟨rfl, rfl⟩) ?_
        refine a_op 6 rfl (by kernel_rfl) (fun w_ h_ => o_loadN (cs := [(.int .i64 r.kind), (.int .i64 r.gsn), (.int .i64 r.txn), (.int .i64 r.prev), (.int .i64 r.page), (S r.key), (.bool r.bh), (S r.bv), (.bool r.ah), (S r.av), (.int .i64 r.undo)]) Try.underlying32 rfl ti32 rfl h_ (seg_sub 0 rfl) (CellsAt.one rfl) ⟨rfl, rfl⟩) ?_
        have hH42 : Has E { w35 with drawn := w35.drawn + 1 } [[Hp.one b9 (.cells #[(.int .i64 r.kind), (.int .i64 r.gsn), (.int .i64 r.txn), (.int .i64 r.prev), (.int .i64 r.page), (S r.key), (.bool r.bh), (S r.bv), (.bool r.ah), (S r.av), (.int .i64 r.undo)] 32 (0, 0))], [Hp.one kb (.cells #[(.int .i64 v.id), (.int .i64 v.home), (.int .i64 v.first), (.int .i64 v.last), (.int .i64 v.state), x1, x2] 130 (0, 0))]] := ((hH41.front 2 rfl).front 2 rfl).first 2 rfl
        refine a_w 7 rfl (by kernel_rfl) hH42 (o_buildSlice (ps := #[(0, (.agg #[(.int .i64 r.kind), (.int .i64 r.gsn), (.int .i64 r.txn), (.int .i64 r.prev), (.int .i64 r.page), (S r.key), (.bool r.bh), (S r.bv), (.bool r.ah), (S r.av), (.int .i64 r.undo)]))]) (cells := #[(.int .i64 r.kind), (.int .i64 r.gsn), (.int .i64 r.txn), (.int .i64 r.prev), (.int .i64 r.page), (S r.key), (.bool r.bh), (S r.bv), (.bool r.ah), (S r.av), (.int .i64 r.undo)]) Try.underlying22 ti32 (by decide) (parts1 rfl) (by kernel_rfl) hH41 fun b43 w44 hH45 => ?_)
        have hH46 : Has E w44 [[Hp.one b9 (.cells #[(.int .i64 r.kind), (.int .i64 r.gsn), (.int .i64 r.txn), (.int .i64 r.prev), (.int .i64 r.page), (S r.key), (.bool r.bh), (S r.bv), (.bool r.ah), (S r.av), (.int .i64 r.undo)] 32 (0, 0))], [Hp.one kb (.cells #[(.int .i64 v.id), (.int .i64 v.home), (.int .i64 v.first), (.int .i64 v.last), (.int .i64 v.state), x1, x2] 130 (0, 0))]] := ((hH45.front 3 rfl).front 3 rfl).first 2 rfl
        refine a_w 8 rfl (by kernel_rfl) hH46 (o_append Try.underlying22 ti32 rfl (by decide) rfl f5 rfl (sl_litF (f := recC) (l := [r]) recC_len rfl rfl (by simp)) (hH45.front 4 rfl) (seg_sub 0 rfl) (one_recC _) (by simp; omega) (by simp; omega) fun v47 s48 w50 ho49 hH51 => ?_)
        have ho49 : Own 32 11 v47 (v.changes ++ [r]).length ((v.changes ++ [r]).flatMap recC) s48 := ho49.appF
        have hH52 : Has E w50 [[Hp.one b9 (.cells #[(.int .i64 r.kind), (.int .i64 r.gsn), (.int .i64 r.txn), (.int .i64 r.prev), (.int .i64 r.page), (S r.key), (.bool r.bh), (S r.bv), (.bool r.ah), (S r.av), (.int .i64 r.undo)] 32 (0, 0))], [Hp.one kb (.cells #[(.int .i64 v.id), (.int .i64 v.home), (.int .i64 v.first), (.int .i64 v.last), (.int .i64 v.state), x1, x2] 130 (0, 0))]] := ((hH51.front 4 rfl).front 4 rfl).first 2 rfl
        refine a_done (by kernel_rfl) hH52 ?_
        refine r_op 9 rfl (by kernel_rfl) (o_nilCheck rfl ?_)
        refine r_op 10 rfl (by kernel_rfl) (o_fieldAddr (k := 0) (fun _ => by kernel_rfl) rfl ?_)
        refine r_op 11 rfl (by kernel_rfl) (o_fieldAddr (k := 5) (fun _ => by kernel_rfl) rfl ?_)
        refine r_eff 12 rfl (by kernel_rfl) (o_store1 (c' := #[(.int .i64 v.id), (.int .i64 v.home), (.int .i64 v.first), (.int .i64 v.last), (.int .i64 v.state), v47, x2]) ti22 rfl rfl ho49.one (by simp) rfl (hH51.front 4 rfl) fun w53 hH54 => ?_)
        refine Rest.done (by kernel_rfl) ?_
        refine b_norm ?_
        refine t_norm (hK37 _ _ ?_)
        refine wp_seq_k fun K55 hK55 => ?_
        refine c_region ?_
        refine s_op (o_move (v := (.pointer (some ⟨kb, 0, none⟩))) rfl ?_)
        refine s_op (o_fieldAddr (k := 1) (fun _ => by kernel_rfl) rfl ?_)
        refine s_op (o_load1 (v := (.int .i64 r.gsn)) Try.underlying3 rfl rfl hH54 (seg_sub 4 rfl) (CellsAt.one rfl) ?_)
        refine s_op (o_nilCheck rfl ?_)
        refine s_op (o_fieldAddr (k := 0) (fun _ => by kernel_rfl) rfl ?_)
        refine s_op (o_fieldAddr (k := 3) (fun _ => by kernel_rfl) rfl ?_)
        refine s_eff (o_store1 (c' := #[(.int .i64 v.id), (.int .i64 v.home), (.int .i64 v.first), (.int .i64 r.gsn), (.int .i64 v.state), v47, x2]) ti3 rfl rfl rfl (by simp) rfl (hH54.front 0 rfl) fun w56 hH57 => ?_)
        refine s_nil ?_
        refine t_norm (hK55 _ _ ?_)
        refine wp_seq_k fun K58 hK58 => ?_
        refine c_region ?_
        refine s_op (o_assign (v := (.int .i64 0)) rfl ?_)
        refine s_nil ?_
        refine t_norm (hK58 _ _ ?_)
        refine wp_ret ?_
        refine c_ret1 Try.results115  (v := (.int .i64 0)) rfl ?_
        have q59 : (noteE v r) = 0 := by unfold noteE; simp [h14, h24, h40]
        have hH60 : Has E w56 [([Hp.one kb (.cells #[(.int .i64 v.id), (.int .i64 v.home), (.int .i64 v.first), (.int .i64 r.gsn), (.int .i64 v.state), v47, x2] 130 (0, 0))] ++ (s48 ++ s4)), [Hp.one b43 (.cells #[(.int .i64 r.kind), (.int .i64 r.gsn), (.int .i64 r.txn), (.int .i64 r.prev), (.int .i64 r.page), (S r.key), (.bool r.bh), (S r.bv), (.bool r.ah), (S r.av), (.int .i64 r.undo)] 32 (0, 0))], [Hp.one b32 (.cells #[(.int .i64 ((v.changes.length : Nat) : Int))] 3 (0, 0))], [Hp.one b9 (.cells #[(.int .i64 r.kind), (.int .i64 r.gsn), (.int .i64 r.txn), (.int .i64 r.prev), (.int .i64 r.page), (S r.key), (.bool r.bh), (S r.bv), (.bool r.ah), (S r.av), (.int .i64 r.undo)] 32 (0, 0))], R] := Has.cl3 (((hH57.front 5 rfl).front 2 rfl).front 2 rfl)
        have hd61 : KnAt kb ([Hp.one kb (.cells #[(.int .i64 v.id), (.int .i64 v.home), (.int .i64 v.first), (.int .i64 r.gsn), (.int .i64 v.state), v47, x2] 130 (0, 0))] ++ (s48 ++ s4)) (⟨v.id, v.home, v.first, r.gsn, v.state, v.changes ++ [r], v.places⟩ : Kn) := KnAt.mk (v := (⟨v.id, v.home, v.first, r.gsn, v.state, v.changes ++ [r], v.places⟩ : Kn)) ho49 f6
        have q62 : (noteK v r) = (⟨v.id, v.home, v.first, r.gsn, v.state, v.changes ++ [r], v.places⟩ : Kn) := by unfold noteK noteE stepK; simp [h14, h24, h40]
        have hH63 : Has E w56 [([Hp.one kb (.cells #[(.int .i64 v.id), (.int .i64 v.home), (.int .i64 v.first), (.int .i64 r.gsn), (.int .i64 v.state), v47, x2] 130 (0, 0))] ++ (s48 ++ s4)), R] := ((hH60.front 4 rfl).front 1 rfl).first 2 rfl
        exact ⟨_, by rw [q59], (by rw [q62]; exact hd61), hH63⟩
      · -- not: r.kind = 2
        refine wp_seq_k fun K64 hK64 => ?_
        refine c_region ?_
        refine s_op (o_eql (a := r.kind) (b := 3) rfl rfl ?_)
        refine s_op (o_assign (v := (.bool (decide (r.kind = 3)))) rfl ?_)
        refine s_nil ?_
        refine t_norm (hK64 _ _ ?_)
        refine c_cond rfl (fun h65 => ?_) (fun h65 => ?_)
        · -- r.kind = 3
          refine wp_seq_k fun K66 hK66 => ?_
          refine wp_seq_k fun K67 hK67 => ?_
          refine Rest.region mixed (by kernel_rfl) ?_
          have hH68 : Has E { w35 with drawn := w35.drawn + 1 } [[Hp.one b32 (.cells #[(.int .i64 ((v.changes.length : Nat) : Int))] 3 (0, 0))], [Hp.one b9 (.cells #[(.int .i64 r.kind), (.int .i64 r.gsn), (.int .i64 r.txn), (.int .i64 r.prev), (.int .i64 r.page), (S r.key), (.bool r.bh), (S r.bv), (.bool r.ah), (S r.av), (.int .i64 r.undo)] 32 (0, 0))], [Hp.one kb (.cells #[(.int .i64 v.id), (.int .i64 v.home), (.int .i64 v.first), (.int .i64 v.last), (.int .i64 v.state), x1, x2] 130 (0, 0))], s3, s4, R] := Has0.drew hH36 _
          refine r_op 0 rfl (by kernel_rfl) (o_load1 (v := (.int .i64 ((v.changes.length : Nat) : Int))) Try.underlying3 rfl rfl hH68 (seg_sub 0 rfl) (CellsAt.one rfl) ?_)
          refine r_op 1 rfl (by kernel_rfl) (o_eql (a := ((v.changes.length : Nat) : Int)) (b := 0) rfl rfl ?_)
          refine r_op 2 rfl (by kernel_rfl) (o_move (v := (.bool (decide (((v.changes.length : Nat) : Int) = 0)))) rfl ?_)
          refine Rest.phaseA (fun w_ => Has E w_ [[Hp.one b32 (.cells #[(.int .i64 ((v.changes.length : Nat) : Int))] 3 (0, 0))], [Hp.one b9 (.cells #[(.int .i64 r.kind), (.int .i64 r.gsn), (.int .i64 r.txn), (.int .i64 r.prev), (.int .i64 r.page), (S r.key), (.bool r.bh), (S r.bv), (.bool r.ah), (S r.av), (.int .i64 r.undo)] 32 (0, 0))], [Hp.one kb (.cells #[(.int .i64 v.id), (.int .i64 v.home), (.int .i64 v.first), (.int .i64 v.last), (.int .i64 v.state), x1, x2] 130 (0, 0))], s3]) 3 13 10 rfl (by decide) (by kernel_rfl) ?_
          by_cases h69 : ((v.changes.length : Nat) : Int) = 0
          · -- ((v.changes.length : Nat) : Int) = 0
            refine a_off (b' := true) 3 rfl (by kernel_rfl) 48 rfl (congrArg Value.bool (decide_eq_true h69)) rfl ?_
            refine a_off (b' := true) 4 rfl (by kernel_rfl) 48 rfl (congrArg Value.bool (decide_eq_true h69)) rfl ?_
            refine a_off (b' := true) 5 rfl (by kernel_rfl) 48 rfl (congrArg Value.bool (decide_eq_true h69)) rfl ?_
            refine a_off (b' := true) 6 rfl (by kernel_rfl) 48 rfl (congrArg Value.bool (decide_eq_true h69)) rfl ?_
            refine a_off (b' := true) 7 rfl (by kernel_rfl) 48 rfl (congrArg Value.bool (decide_eq_true h69)) rfl ?_
            refine a_off (b' := true) 8 rfl (by kernel_rfl) 48 rfl (congrArg Value.bool (decide_eq_true h69)) rfl ?_
            refine a_off (b' := true) 9 rfl (by kernel_rfl) 48 rfl (congrArg Value.bool (decide_eq_true h69)) rfl ?_
            refine a_off (b' := true) 10 rfl (by kernel_rfl) 48 rfl (congrArg Value.bool (decide_eq_true h69)) rfl ?_
            refine a_off (b' := true) 11 rfl (by kernel_rfl) 48 rfl (congrArg Value.bool (decide_eq_true h69)) rfl ?_
            refine a_off (b' := true) 12 rfl (by kernel_rfl) 48 rfl (congrArg Value.bool (decide_eq_true h69)) rfl ?_
            have hH70 : Has E { w35 with drawn := w35.drawn + 1 } [[Hp.one b32 (.cells #[(.int .i64 ((v.changes.length : Nat) : Int))] 3 (0, 0))], [Hp.one b9 (.cells #[(.int .i64 r.kind), (.int .i64 r.gsn), (.int .i64 r.txn), (.int .i64 r.prev), (.int .i64 r.page), (S r.key), (.bool r.bh), (S r.bv), (.bool r.ah), (S r.av), (.int .i64 r.undo)] 32 (0, 0))], [Hp.one kb (.cells #[(.int .i64 v.id), (.int .i64 v.home), (.int .i64 v.first), (.int .i64 v.last), (.int .i64 v.state), x1, x2] 130 (0, 0))], s3] := ((((hH68.front 3 rfl).front 3 rfl).front 3 rfl).front 3 rfl).first 4 rfl
            refine a_done (by kernel_rfl) hH70 ?_
            refine r_off (b' := true) 13 rfl (by kernel_rfl) 48 rfl (congrArg Value.bool (decide_eq_true h69)) rfl ?_
            refine r_off (b' := true) 14 rfl (by kernel_rfl) 48 rfl (congrArg Value.bool (decide_eq_true h69)) rfl ?_
            refine r_op 15 rfl (by kernel_rfl) (o_pick_t (u := (.bool true)) ((rfl : _ = _).trans (congrArg Value.bool (decide_eq_true h69))) rfl ?_)
            refine Rest.done (by kernel_rfl) ?_
            refine t_norm (hK67 _ _ ?_)
            refine c_true rfl rfl ?_
            refine wp_seq_k fun K71 hK71 => ?_
            refine c_region ?_
            refine s_op (o_assign (v := (.int .i64 1)) rfl ?_)
            refine s_nil ?_
            refine t_norm (hK71 _ _ ?_)
            refine wp_ret ?_
            refine t_ret (b_ret (t_ret (c_ret1 Try.results115  (v := (.int .i64 1)) rfl ?_)))
            have q72 : (noteE v r) = 1 := by unfold noteE; have hla_ := last_nil h69; simp [h14, h24, h40, h65, h69, hla_]
            have hH73 : Has E { w35 with drawn := w35.drawn + 1 } [([Hp.one kb (.cells #[(.int .i64 v.id), (.int .i64 v.home), (.int .i64 v.first), (.int .i64 v.last), (.int .i64 v.state), x1, x2] 130 (0, 0))] ++ (s3 ++ s4)), [Hp.one b32 (.cells #[(.int .i64 ((v.changes.length : Nat) : Int))] 3 (0, 0))], [Hp.one b9 (.cells #[(.int .i64 r.kind), (.int .i64 r.gsn), (.int .i64 r.txn), (.int .i64 r.prev), (.int .i64 r.page), (S r.key), (.bool r.bh), (S r.bv), (.bool r.ah), (S r.av), (.int .i64 r.undo)] 32 (0, 0))], R] := Has.cl3 (((hH68.front 4 rfl).front 4 rfl).front 4 rfl)
            have hd74 : KnAt kb ([Hp.one kb (.cells #[(.int .i64 v.id), (.int .i64 v.home), (.int .i64 v.first), (.int .i64 v.last), (.int .i64 v.state), x1, x2] 130 (0, 0))] ++ (s3 ++ s4)) v := KnAt.mk (v := v) f5 f6
            have q75 : (noteK v r) = v := by unfold noteK noteE stepK; have hla_ := last_nil h69; simp [h14, h24, h40, h65, h69, hla_]
            have hH76 : Has E { w35 with drawn := w35.drawn + 1 } [([Hp.one kb (.cells #[(.int .i64 v.id), (.int .i64 v.home), (.int .i64 v.first), (.int .i64 v.last), (.int .i64 v.state), x1, x2] 130 (0, 0))] ++ (s3 ++ s4)), R] := ((hH73.front 3 rfl).front 1 rfl).first 2 rfl
            exact ⟨_, by rw [q72], (by rw [q75]; exact hd74), hH76⟩
          · -- not: ((v.changes.length : Nat) : Int) = 0
            refine a_on 3 rfl (by kernel_rfl) 48 rfl (congrArg Value.bool (decide_eq_false h69)) (fun w_ h_ => o_loadN (cs := [(.int .i64 r.kind), (.int .i64 r.gsn), (.int .i64 r.txn), (.int .i64 r.prev), (.int .i64 r.page), (S r.key), (.bool r.bh), (S r.bv), (.bool r.ah), (S r.av), (.int .i64 r.undo)]) Try.underlying32 rfl ti32 rfl h_ (seg_sub 1 rfl) (CellsAt.one rfl) ⟨rfl, rfl⟩) ?_
            refine a_on 4 rfl (by kernel_rfl) 48 rfl (congrArg Value.bool (decide_eq_false h69)) (fun w_ h_ => o_move (v := (.pointer (some ⟨kb, 0, none⟩))) rfl ⟨rfl, rfl⟩) ?_
            refine a_on 5 rfl (by kernel_rfl) 48 rfl (congrArg Value.bool (decide_eq_false h69)) (fun w_ h_ => o_nilCheck rfl ⟨rfl, rfl⟩) ?_
            refine a_on 6 rfl (by kernel_rfl) 48 rfl (congrArg Value.bool (decide_eq_false h69)) (fun w_ h_ => o_fieldAddr (k := 0) (fun _ => by kernel_rfl) rfl ⟨rfl, rfl⟩) ?_
            refine a_on 7 rfl (by kernel_rfl) 48 rfl (congrArg Value.bool (decide_eq_false h69)) (fun w_ h_ => o_fieldAddr (k := 5) (fun _ => by kernel_rfl) rfl ⟨rfl, rfl⟩) ?_
            refine a_on 8 rfl (by kernel_rfl) 48 rfl (congrArg Value.bool (decide_eq_false h69)) (fun w_ h_ => o_load1 (v := x1) Try.underlying22 rfl rfl h_ (seg_sub 2 rfl) (CellsAt.one rfl) ⟨rfl, rfl⟩) ?_
            refine a_on 9 rfl (by kernel_rfl) 48 rfl (congrArg Value.bool (decide_eq_false h69)) (fun w_ h_ => o_load1 (v := (.int .i64 ((v.changes.length : Nat) : Int))) Try.underlying3 rfl rfl h_ (seg_sub 0 rfl) (CellsAt.one rfl) ⟨rfl, rfl⟩) ?_
            refine a_on 10 rfl (by kernel_rfl) 48 rfl (congrArg Value.bool (decide_eq_false h69)) (fun w_ h_ => o_sub (a := ((v.changes.length : Nat) : Int)) (b := 1) rfl rfl (w64 (by omega) (by omega)) ⟨rfl, rfl⟩) ?_
            obtain ⟨x80, hx81⟩ : ∃ x_, v.changes[(((v.changes.length : Nat) : Int) - 1).toNat]? = some x_ := get_some (by omega)
            obtain ⟨b77, o78, hc79, ho82⟩ := ix_exF recC_len Try.underlying22 ti32 f5.sl (by omega) hx81
            refine a_on 11 rfl (by kernel_rfl) 48 rfl (congrArg Value.bool (decide_eq_false h69)) (fun w_ h_ => ho82 rfl rfl ⟨rfl, rfl⟩) ?_
            refine a_on 12 rfl (by kernel_rfl) 48 rfl (congrArg Value.bool (decide_eq_false h69)) (fun w_ h_ => o_loadN (cs := [(.int .i64 x80.kind), (.int .i64 x80.gsn), (.int .i64 x80.txn), (.int .i64 x80.prev), (.int .i64 x80.page), (S x80.key), (.bool x80.bh), (S x80.bv), (.bool x80.ah), (S x80.av), (.int .i64 x80.undo)]) Try.underlying32 rfl ti32 rfl h_ (seg_sub 3 rfl) hc79 ⟨rfl, rfl⟩) ?_
            have hH83 : Has E { w35 with drawn := w35.drawn + 1 } [[Hp.one b32 (.cells #[(.int .i64 ((v.changes.length : Nat) : Int))] 3 (0, 0))], [Hp.one b9 (.cells #[(.int .i64 r.kind), (.int .i64 r.gsn), (.int .i64 r.txn), (.int .i64 r.prev), (.int .i64 r.page), (S r.key), (.bool r.bh), (S r.bv), (.bool r.ah), (S r.av), (.int .i64 r.undo)] 32 (0, 0))], [Hp.one kb (.cells #[(.int .i64 v.id), (.int .i64 v.home), (.int .i64 v.first), (.int .i64 v.last), (.int .i64 v.state), x1, x2] 130 (0, 0))], s3] := ((((hH68.front 3 rfl).front 3 rfl).front 3 rfl).front 3 rfl).first 4 rfl
            refine a_done (by kernel_rfl) hH83 ?_
            refine r_on 13 rfl (by kernel_rfl) 48 rfl (congrArg Value.bool (decide_eq_false h69)) (o_callf (vs := #[(.agg #[(.int .i64 r.kind), (.int .i64 r.gsn), (.int .i64 r.txn), (.int .i64 r.prev), (.int .i64 r.page), (S r.key), (.bool r.bh), (S r.bv), (.bool r.ah), (S r.av), (.int .i64 r.undo)]), (.agg #[(.int .i64 x80.kind), (.int .i64 x80.gsn), (.int .i64 x80.txn), (.int .i64 x80.prev), (.int .i64 x80.page), (S x80.key), (.bool x80.bh), (S x80.bv), (.bool x80.ah), (S x80.av), (.int .i64 x80.undo)])]) ca151 rfl (args2 rfl rfl) (takes_c (r := r) (c := x80) hH68.all ) ?_)
            rintro _ w86 ⟨rfl, hX84⟩
            refine ⟨_, rfl, ?_⟩
            have hH85 := hX84.of_all
            refine r_on 14 rfl (by kernel_rfl) 48 rfl (congrArg Value.bool (decide_eq_false h69)) (o_not rfl ?_)
            refine r_op 15 rfl (by kernel_rfl) (o_pick_f (u := (.bool (!(takesR r x80)))) ((rfl : _ = _).trans (congrArg Value.bool (decide_eq_false h69))) rfl ?_)
            refine Rest.done (by kernel_rfl) ?_
            refine t_norm (hK67 _ _ ?_)
            refine c_condb rfl (fun h87 => ?_) (fun h87 => ?_)
            · -- !(takesR r x80)
              have h87_n : (takesR r x80) = false := by simpa using h87
              refine wp_seq_k fun K88 hK88 => ?_
              refine c_region ?_
              refine s_op (o_assign (v := (.int .i64 1)) rfl ?_)
              refine s_nil ?_
              refine t_norm (hK88 _ _ ?_)
              refine wp_ret ?_
              refine t_ret (b_ret (t_ret (c_ret1 Try.results115  (v := (.int .i64 1)) rfl ?_)))
              have q89 : (noteE v r) = 1 := by unfold noteE; have hla_ := last_at (by omega) (show v.changes[_]? = some _ from hx81); simp [h14, h24, h40, h65, h69, h87, h87_n, hla_]
              have hH90 : Has E w86 [([Hp.one kb (.cells #[(.int .i64 v.id), (.int .i64 v.home), (.int .i64 v.first), (.int .i64 v.last), (.int .i64 v.state), x1, x2] 130 (0, 0))] ++ (s3 ++ s4)), [Hp.one b32 (.cells #[(.int .i64 ((v.changes.length : Nat) : Int))] 3 (0, 0))], [Hp.one b9 (.cells #[(.int .i64 r.kind), (.int .i64 r.gsn), (.int .i64 r.txn), (.int .i64 r.prev), (.int .i64 r.page), (S r.key), (.bool r.bh), (S r.bv), (.bool r.ah), (S r.av), (.int .i64 r.undo)] 32 (0, 0))], R] := Has.cl3 (((hH85.front 4 rfl).front 4 rfl).front 4 rfl)
              have hd91 : KnAt kb ([Hp.one kb (.cells #[(.int .i64 v.id), (.int .i64 v.home), (.int .i64 v.first), (.int .i64 v.last), (.int .i64 v.state), x1, x2] 130 (0, 0))] ++ (s3 ++ s4)) v := KnAt.mk (v := v) f5 f6
              have q92 : (noteK v r) = v := by unfold noteK noteE stepK; have hla_ := last_at (by omega) (show v.changes[_]? = some _ from hx81); simp [h14, h24, h40, h65, h69, h87, h87_n, hla_]
              have hH93 : Has E w86 [([Hp.one kb (.cells #[(.int .i64 v.id), (.int .i64 v.home), (.int .i64 v.first), (.int .i64 v.last), (.int .i64 v.state), x1, x2] 130 (0, 0))] ++ (s3 ++ s4)), R] := ((hH90.front 3 rfl).front 1 rfl).first 2 rfl
              exact ⟨_, by rw [q89], (by rw [q92]; exact hd91), hH93⟩
            · -- not: !(takesR r x80)
              have h87_n : (takesR r x80) = true := by simpa using h87
              refine wp_skip ?_
              refine t_norm (hK66 _ _ ?_)
              refine wp_seq_k fun K94 hK94 => ?_
              refine Rest.region mixed (by kernel_rfl) ?_
              have hH95 : Has E { w86 with drawn := w86.drawn + 1 } [[Hp.one b32 (.cells #[(.int .i64 ((v.changes.length : Nat) : Int))] 3 (0, 0))], [Hp.one b9 (.cells #[(.int .i64 r.kind), (.int .i64 r.gsn), (.int .i64 r.txn), (.int .i64 r.prev), (.int .i64 r.page), (S r.key), (.bool r.bh), (S r.bv), (.bool r.ah), (S r.av), (.int .i64 r.undo)] 32 (0, 0))], [Hp.one kb (.cells #[(.int .i64 v.id), (.int .i64 v.home), (.int .i64 v.first), (.int .i64 v.last), (.int .i64 v.state), x1, x2] 130 (0, 0))], s3, s4, R] := Has0.drew hH85 _
              refine Rest.phaseA (fun w_ => Has E w_ [[Hp.one b32 (.cells #[(.int .i64 ((v.changes.length : Nat) : Int))] 3 (0, 0))], [Hp.one kb (.cells #[(.int .i64 v.id), (.int .i64 v.home), (.int .i64 v.first), (.int .i64 v.last), (.int .i64 v.state), x1, x2] 130 (0, 0))]]) 0 9 9 rfl (by decide) (by kernel_rfl) ?_
              refine a_op 0 rfl (by kernel_rfl) (fun w_ h_ => o_move (v := (.pointer (some ⟨kb, 0, none⟩))) rfl ⟨rfl, rfl⟩) ?_
              refine a_op 1 rfl (by kernel_rfl) (fun w_ h_ => o_move (v := (.pointer (some ⟨kb, 0, none⟩))) rfl ⟨rfl, rfl⟩) ?_
              refine a_op 2 rfl (by kernel_rfl) (fun w_ h_ => o_nilCheck rfl ⟨rfl, rfl⟩) ?_
              refine a_op 3 rfl (by kernel_rfl) (fun w_ h_ => o_fieldAddr (k := 0) (fun _ => by kernel_rfl) rfl ⟨rfl, rfl⟩) ?_
              refine a_op 4 rfl (by kernel_rfl) (fun w_ h_ => o_fieldAddr (k := 5) (fun _ => by kernel_rfl) rfl ⟨rfl, rfl⟩) ?_
              refine a_op 5 rfl (by kernel_rfl) (fun w_ h_ => o_load1 (v := x1) Try.underlying22 rfl rfl h_ (seg_sub 1 rfl) (CellsAt.one rfl) ⟨rfl, rfl⟩) ?_
              refine a_op 6 rfl (by kernel_rfl) (fun w_ h_ => o_load1 (v := (.int .i64 ((v.changes.length : Nat) : Int))) Try.underlying3 rfl rfl h_ (seg_sub 0 rfl) (CellsAt.one rfl) ⟨rfl, rfl⟩) ?_
              refine a_op 7 rfl (by kernel_rfl) (fun w_ h_ => o_sub (a := ((v.changes.length : Nat) : Int)) (b := 1) rfl rfl (w64 (by omega) (by omega)) ⟨rfl, rfl⟩) ?_
              have hH96 : Has E { w86 with drawn := w86.drawn + 1 } [[Hp.one b32 (.cells #[(.int .i64 ((v.changes.length : Nat) : Int))] 3 (0, 0))], [Hp.one kb (.cells #[(.int .i64 v.id), (.int .i64 v.home), (.int .i64 v.first), (.int .i64 v.last), (.int .i64 v.state), x1, x2] 130 (0, 0))]] := ((hH95.front 2 rfl).front 1 rfl).first 2 rfl
              refine a_w 8 rfl (by kernel_rfl) hH96 (o_slh Try.underlying22 ti32 rfl f5.sl rfl (by omega) (by omega) ?_)
              have hH97 : Has E { w86 with drawn := w86.drawn + 1 } [[Hp.one b32 (.cells #[(.int .i64 ((v.changes.length : Nat) : Int))] 3 (0, 0))], [Hp.one kb (.cells #[(.int .i64 v.id), (.int .i64 v.home), (.int .i64 v.first), (.int .i64 v.last), (.int .i64 v.state), x1, x2] 130 (0, 0))]] := ((hH95.front 2 rfl).front 1 rfl).first 2 rfl
              refine a_done (by kernel_rfl) hH97 ?_
              refine r_op 9 rfl (by kernel_rfl) (o_nilCheck rfl ?_)
              refine r_op 10 rfl (by kernel_rfl) (o_fieldAddr (k := 0) (fun _ => by kernel_rfl) rfl ?_)
              refine r_op 11 rfl (by kernel_rfl) (o_fieldAddr (k := 5) (fun _ => by kernel_rfl) rfl ?_)
              refine r_eff 12 rfl (by kernel_rfl) (o_store1 (c' := #[(.int .i64 v.id), (.int .i64 v.home), (.int .i64 v.first), (.int .i64 v.last), (.int .i64 v.state), (headV x1 (((v.changes.length : Nat) : Int) - 1).toNat 11), x2]) ti22 rfl rfl (Own.one (own_headf (f := recC) (fun _ => rfl) f5 (show (((v.changes.length : Nat) : Int) - 1).toNat ≤ v.changes.length by omega))) (by simp) rfl (hH95.front 2 rfl) fun w98 hH99 => ?_)
              refine Rest.done (by kernel_rfl) ?_
              refine t_norm (hK94 _ _ ?_)
              refine c_region ?_
              refine s_op (o_move (v := (.pointer (some ⟨kb, 0, none⟩))) rfl ?_)
              refine s_op (o_move (v := (.pointer (some ⟨kb, 0, none⟩))) rfl ?_)
              refine s_op (o_nilCheck rfl ?_)
              refine s_op (o_fieldAddr (k := 0) (fun _ => by kernel_rfl) rfl ?_)
              refine s_op (o_fieldAddr (k := 6) (fun _ => by kernel_rfl) rfl ?_)
              refine s_op (o_load1 (v := x2) Try.underlying33 rfl rfl hH99 (seg_sub 0 rfl) (CellsAt.one rfl) ?_)
              refine s_op (o_makeFunc (vs := #[(.pointer (some ⟨b32, 0, none⟩))]) (cap1 rfl) ?_)
              refine s_op (o_callf (vs := #[x2, (.func (.func 153) #[] #[(.pointer (some ⟨b32, 0, none⟩))])]) ca152 rfl (args2 rfl rfl) (pldelf_c (l := v.places) (c := beyond ((v.changes.length : Nat) : Int)) (va := fun v_ => #[v_, (.pointer (some ⟨b32, 0, none⟩))]) (hH99.front 4 rfl).all1 f6 ca153 (fun _ => by simp) (fun F_ x_ h_ => Calls.frameF (notef_c (p := x_) (n := ((v.changes.length : Nat) : Int)) h_.all ((CellsAt.one rfl).mono (fun _ g_ => sub_l ((seg_sub 1 rfl) g_))))) (by first | omega | (simp only []; omega) | (simp; done) | (simp; omega))) ?_)
              rintro _ w105 ⟨v100, s101, rfl, ho102, hX103⟩
              refine ⟨_, rfl, ?_⟩
              have hH104 : Has E w105 [s101, [Hp.one kb (.cells #[(.int .i64 v.id), (.int .i64 v.home), (.int .i64 v.first), (.int .i64 v.last), (.int .i64 v.state), (headV x1 (((v.changes.length : Nat) : Int) - 1).toNat 11), x2] 130 (0, 0))], [Hp.one b32 (.cells #[(.int .i64 ((v.changes.length : Nat) : Int))] 3 (0, 0))], [Hp.one b9 (.cells #[(.int .i64 r.kind), (.int .i64 r.gsn), (.int .i64 r.txn), (.int .i64 r.prev), (.int .i64 r.page), (S r.key), (.bool r.bh), (S r.bv), (.bool r.ah), (S r.av), (.int .i64 r.undo)] 32 (0, 0))], s3, R] := hX103.of_all1
              refine s_op (o_nilCheck rfl ?_)
              refine s_op (o_fieldAddr (k := 0) (fun _ => by kernel_rfl) rfl ?_)
              refine s_op (o_fieldAddr (k := 6) (fun _ => by kernel_rfl) rfl ?_)
              refine s_eff (o_store1 (c' := #[(.int .i64 v.id), (.int .i64 v.home), (.int .i64 v.first), (.int .i64 v.last), (.int .i64 v.state), (headV x1 (((v.changes.length : Nat) : Int) - 1).toNat 11), v100]) ti33 rfl rfl ho102.one (by simp) rfl (hH104.front 1 rfl) fun w106 hH107 => ?_)
              refine s_nil ?_
              refine b_norm ?_
              refine t_norm (hK37 _ _ ?_)
              refine wp_seq_k fun K108 hK108 => ?_
              refine c_region ?_
              refine s_op (o_move (v := (.pointer (some ⟨kb, 0, none⟩))) rfl ?_)
              refine s_op (o_fieldAddr (k := 1) (fun _ => by kernel_rfl) rfl ?_)
              refine s_op (o_load1 (v := (.int .i64 r.gsn)) Try.underlying3 rfl rfl hH107 (seg_sub 3 rfl) (CellsAt.one rfl) ?_)
              refine s_op (o_nilCheck rfl ?_)
              refine s_op (o_fieldAddr (k := 0) (fun _ => by kernel_rfl) rfl ?_)
              refine s_op (o_fieldAddr (k := 3) (fun _ => by kernel_rfl) rfl ?_)
              refine s_eff (o_store1 (c' := #[(.int .i64 v.id), (.int .i64 v.home), (.int .i64 v.first), (.int .i64 r.gsn), (.int .i64 v.state), (headV x1 (((v.changes.length : Nat) : Int) - 1).toNat 11), v100]) ti3 rfl rfl rfl (by simp) rfl (hH107.front 0 rfl) fun w109 hH110 => ?_)
              refine s_nil ?_
              refine t_norm (hK108 _ _ ?_)
              refine wp_seq_k fun K111 hK111 => ?_
              refine c_region ?_
              refine s_op (o_assign (v := (.int .i64 0)) rfl ?_)
              refine s_nil ?_
              refine t_norm (hK111 _ _ ?_)
              refine wp_ret ?_
              refine c_ret1 Try.results115  (v := (.int .i64 0)) rfl ?_
              have q112 : (noteE v r) = 0 := by unfold noteE; have hla_ := last_at (by omega) (show v.changes[_]? = some _ from hx81); simp [h14, h24, h40, h65, h69, h87, h87_n, hla_]
              have hH113 : Has E w109 [([Hp.one kb (.cells #[(.int .i64 v.id), (.int .i64 v.home), (.int .i64 v.first), (.int .i64 r.gsn), (.int .i64 v.state), (headV x1 (((v.changes.length : Nat) : Int) - 1).toNat 11), v100] 130 (0, 0))] ++ (s3 ++ s101)), [Hp.one b32 (.cells #[(.int .i64 ((v.changes.length : Nat) : Int))] 3 (0, 0))], [Hp.one b9 (.cells #[(.int .i64 r.kind), (.int .i64 r.gsn), (.int .i64 r.txn), (.int .i64 r.prev), (.int .i64 r.page), (S r.key), (.bool r.bh), (S r.bv), (.bool r.ah), (S r.av), (.int .i64 r.undo)] 32 (0, 0))], R] := Has.cl3 (((hH110.front 1 rfl).front 4 rfl).front 2 rfl)
              have hd114 : KnAt kb ([Hp.one kb (.cells #[(.int .i64 v.id), (.int .i64 v.home), (.int .i64 v.first), (.int .i64 r.gsn), (.int .i64 v.state), (headV x1 (((v.changes.length : Nat) : Int) - 1).toNat 11), v100] 130 (0, 0))] ++ (s3 ++ s101)) (⟨v.id, v.home, v.first, r.gsn, v.state, (v.changes.take (((v.changes.length : Nat) : Int) - 1).toNat), (v.places.filter fun x_ => !(beyond ((v.changes.length : Nat) : Int)) x_)⟩ : Kn) := KnAt.mk (v := (⟨v.id, v.home, v.first, r.gsn, v.state, (v.changes.take (((v.changes.length : Nat) : Int) - 1).toNat), (v.places.filter fun x_ => !(beyond ((v.changes.length : Nat) : Int)) x_)⟩ : Kn)) (own_headf (f := recC) (fun _ => rfl) f5 (show (((v.changes.length : Nat) : Int) - 1).toNat ≤ v.changes.length by omega)) ho102
              have q115 : (noteK v r) = (⟨v.id, v.home, v.first, r.gsn, v.state, (v.changes.take (((v.changes.length : Nat) : Int) - 1).toNat), (v.places.filter fun x_ => !(beyond ((v.changes.length : Nat) : Int)) x_)⟩ : Kn) := by unfold noteK noteE stepK; have hla_ := last_at (by omega) (show v.changes[_]? = some _ from hx81); simp [h14, h24, h40, h65, h69, h87, h87_n, hla_]
              have hH116 : Has E w109 [([Hp.one kb (.cells #[(.int .i64 v.id), (.int .i64 v.home), (.int .i64 v.first), (.int .i64 r.gsn), (.int .i64 v.state), (headV x1 (((v.changes.length : Nat) : Int) - 1).toNat 11), v100] 130 (0, 0))] ++ (s3 ++ s101)), R] := ((hH113.front 3 rfl).front 1 rfl).first 2 rfl
              exact ⟨_, by rw [q112], (by rw [q115]; exact hd114), hH116⟩
        · -- not: r.kind = 3
          refine wp_seq_k fun K117 hK117 => ?_
          refine c_region ?_
          refine s_op (o_eql (a := r.kind) (b := 4) rfl rfl ?_)
          refine s_op (o_assign (v := (.bool (decide (r.kind = 4)))) rfl ?_)
          refine s_nil ?_
          refine t_norm (hK117 _ _ ?_)
          refine c_cond rfl (fun h118 => ?_) (fun h118 => ?_)
          · -- r.kind = 4
            refine Rest.region mixed (by kernel_rfl) ?_
            have hH119 : Has E { w35 with drawn := w35.drawn + 1 } [[Hp.one b32 (.cells #[(.int .i64 ((v.changes.length : Nat) : Int))] 3 (0, 0))], [Hp.one b9 (.cells #[(.int .i64 r.kind), (.int .i64 r.gsn), (.int .i64 r.txn), (.int .i64 r.prev), (.int .i64 r.page), (S r.key), (.bool r.bh), (S r.bv), (.bool r.ah), (S r.av), (.int .i64 r.undo)] 32 (0, 0))], [Hp.one kb (.cells #[(.int .i64 v.id), (.int .i64 v.home), (.int .i64 v.first), (.int .i64 v.last), (.int .i64 v.state), x1, x2] 130 (0, 0))], s3, s4, R] := Has0.drew hH36 _
            refine Rest.phaseA (fun w_ => Has E w_ [[Hp.one b32 (.cells #[(.int .i64 ((v.changes.length : Nat) : Int))] 3 (0, 0))], [Hp.one b9 (.cells #[(.int .i64 r.kind), (.int .i64 r.gsn), (.int .i64 r.txn), (.int .i64 r.prev), (.int .i64 r.page), (S r.key), (.bool r.bh), (S r.bv), (.bool r.ah), (S r.av), (.int .i64 r.undo)] 32 (0, 0))], [Hp.one kb (.cells #[(.int .i64 v.id), (.int .i64 v.home), (.int .i64 v.first), (.int .i64 v.last), (.int .i64 v.state), x1, x2] 130 (0, 0))]]) 0 12 12 rfl (by decide) (by kernel_rfl) ?_
            refine a_op 0 rfl (by kernel_rfl) (fun w_ h_ => o_move (v := (.pointer (some ⟨kb, 0, none⟩))) rfl ⟨rfl, rfl⟩) ?_
            refine a_op 1 rfl (by kernel_rfl) (fun w_ h_ => o_move (v := (.pointer (some ⟨kb, 0, none⟩))) rfl ⟨rfl, rfl⟩) ?_
            refine a_op 2 rfl (by kernel_rfl) (fun w_ h_ => o_nilCheck rfl ⟨rfl, rfl⟩) ?_
            refine a_op 3 rfl (by kernel_rfl) (fun w_ h_ => o_fieldAddr (k := 0) (fun _ => by kernel_rfl) rfl ⟨rfl, rfl⟩) ?_
            refine a_op 4 rfl (by kernel_rfl) (fun w_ h_ => o_fieldAddr (k := 6) (fun _ => by kernel_rfl) rfl ⟨rfl, rfl⟩) ?_
            refine a_op 5 rfl (by kernel_rfl) (fun w_ h_ => o_load1 (v := x2) Try.underlying33 rfl rfl h_ (seg_sub 2 rfl) (CellsAt.one rfl) ⟨rfl, rfl⟩) ?_
            refine a_op 6 rfl (by kernel_rfl) (fun w_ h_ => o_fieldAddr (k := 10) (fun _ => by kernel_rfl) rfl ⟨rfl, rfl⟩) ?_
            refine a_op 7 rfl (by kernel_rfl) (fun w_ h_ => o_load1 (v := (.int .i64 r.undo)) Try.underlying3 rfl rfl h_ (seg_sub 1 rfl) (CellsAt.one rfl) ⟨rfl, rfl⟩) ?_
            refine a_op 8 rfl (by kernel_rfl) (fun w_ h_ => o_load1 (v := (.int .i64 ((v.changes.length : Nat) : Int))) Try.underlying3 rfl rfl h_ (seg_sub 0 rfl) (CellsAt.one rfl) ⟨rfl, rfl⟩) ?_
            refine a_op 9 rfl (by kernel_rfl) (fun w_ h_ => o_sight (v := (.agg #[(.int .i64 r.undo), (.int .i64 ((v.changes.length : Nat) : Int))])) (fun _ => by kernel_rfl) ⟨rfl, rfl⟩) ?_
            have hH120 : Has E { w35 with drawn := w35.drawn + 1 } [[Hp.one b32 (.cells #[(.int .i64 ((v.changes.length : Nat) : Int))] 3 (0, 0))], [Hp.one b9 (.cells #[(.int .i64 r.kind), (.int .i64 r.gsn), (.int .i64 r.txn), (.int .i64 r.prev), (.int .i64 r.page), (S r.key), (.bool r.bh), (S r.bv), (.bool r.ah), (S r.av), (.int .i64 r.undo)] 32 (0, 0))], [Hp.one kb (.cells #[(.int .i64 v.id), (.int .i64 v.home), (.int .i64 v.first), (.int .i64 v.last), (.int .i64 v.state), x1, x2] 130 (0, 0))]] := (((hH119.front 2 rfl).front 2 rfl).front 2 rfl).first 3 rfl
            refine a_w 10 rfl (by kernel_rfl) hH120 (o_buildSlice (ps := #[(0, (.agg #[(.int .i64 r.undo), (.int .i64 ((v.changes.length : Nat) : Int))]))]) (cells := #[(.int .i64 r.undo), (.int .i64 ((v.changes.length : Nat) : Int))]) Try.underlying33 ti39 (by decide) (parts1 rfl) (by kernel_rfl) hH119 fun b121 w122 hH123 => ?_)
            have hH124 : Has E w122 [[Hp.one b32 (.cells #[(.int .i64 ((v.changes.length : Nat) : Int))] 3 (0, 0))], [Hp.one b9 (.cells #[(.int .i64 r.kind), (.int .i64 r.gsn), (.int .i64 r.txn), (.int .i64 r.prev), (.int .i64 r.page), (S r.key), (.bool r.bh), (S r.bv), (.bool r.ah), (S r.av), (.int .i64 r.undo)] 32 (0, 0))], [Hp.one kb (.cells #[(.int .i64 v.id), (.int .i64 v.home), (.int .i64 v.first), (.int .i64 v.last), (.int .i64 v.state), x1, x2] 130 (0, 0))]] := (((hH123.front 3 rfl).front 3 rfl).front 3 rfl).first 3 rfl
            refine a_w 11 rfl (by kernel_rfl) hH124 (o_append Try.underlying33 ti39 rfl (by decide) rfl f6 rfl (sl_litF (f := tmC) (l := [(r.undo, ((v.changes.length : Nat) : Int))]) tmC_len rfl rfl (by simp)) (hH123.front 5 rfl) (seg_sub 0 rfl) (one_tm _) (by simp; omega) (by simp; omega) fun v125 s126 w128 ho127 hH129 => ?_)
            have ho127 : Own 39 2 v125 (v.places ++ [(r.undo, ((v.changes.length : Nat) : Int))]).length ((v.places ++ [(r.undo, ((v.changes.length : Nat) : Int))]).flatMap tmC) s126 := ho127.appF
            have hH130 : Has E w128 [[Hp.one b32 (.cells #[(.int .i64 ((v.changes.length : Nat) : Int))] 3 (0, 0))], [Hp.one b9 (.cells #[(.int .i64 r.kind), (.int .i64 r.gsn), (.int .i64 r.txn), (.int .i64 r.prev), (.int .i64 r.page), (S r.key), (.bool r.bh), (S r.bv), (.bool r.ah), (S r.av), (.int .i64 r.undo)] 32 (0, 0))], [Hp.one kb (.cells #[(.int .i64 v.id), (.int .i64 v.home), (.int .i64 v.first), (.int .i64 v.last), (.int .i64 v.state), x1, x2] 130 (0, 0))]] := (((hH129.front 4 rfl).front 4 rfl).front 4 rfl).first 3 rfl
            refine a_done (by kernel_rfl) hH130 ?_
            refine r_op 12 rfl (by kernel_rfl) (o_nilCheck rfl ?_)
            refine r_op 13 rfl (by kernel_rfl) (o_fieldAddr (k := 0) (fun _ => by kernel_rfl) rfl ?_)
            refine r_op 14 rfl (by kernel_rfl) (o_fieldAddr (k := 6) (fun _ => by kernel_rfl) rfl ?_)
            refine r_eff 15 rfl (by kernel_rfl) (o_store1 (c' := #[(.int .i64 v.id), (.int .i64 v.home), (.int .i64 v.first), (.int .i64 v.last), (.int .i64 v.state), x1, v125]) ti33 rfl rfl ho127.one (by simp) rfl (hH129.front 4 rfl) fun w131 hH132 => ?_)
            refine Rest.done (by kernel_rfl) ?_
            refine b_norm ?_
            refine t_norm (hK37 _ _ ?_)
            refine wp_seq_k fun K133 hK133 => ?_
            refine c_region ?_
            refine s_op (o_move (v := (.pointer (some ⟨kb, 0, none⟩))) rfl ?_)
            refine s_op (o_fieldAddr (k := 1) (fun _ => by kernel_rfl) rfl ?_)
            refine s_op (o_load1 (v := (.int .i64 r.gsn)) Try.underlying3 rfl rfl hH132 (seg_sub 4 rfl) (CellsAt.one rfl) ?_)
            refine s_op (o_nilCheck rfl ?_)
            refine s_op (o_fieldAddr (k := 0) (fun _ => by kernel_rfl) rfl ?_)
            refine s_op (o_fieldAddr (k := 3) (fun _ => by kernel_rfl) rfl ?_)
            refine s_eff (o_store1 (c' := #[(.int .i64 v.id), (.int .i64 v.home), (.int .i64 v.first), (.int .i64 r.gsn), (.int .i64 v.state), x1, v125]) ti3 rfl rfl rfl (by simp) rfl (hH132.front 0 rfl) fun w134 hH135 => ?_)
            refine s_nil ?_
            refine t_norm (hK133 _ _ ?_)
            refine wp_seq_k fun K136 hK136 => ?_
            refine c_region ?_
            refine s_op (o_assign (v := (.int .i64 0)) rfl ?_)
            refine s_nil ?_
            refine t_norm (hK136 _ _ ?_)
            refine wp_ret ?_
            refine c_ret1 Try.results115  (v := (.int .i64 0)) rfl ?_
            have q137 : (noteE v r) = 0 := by unfold noteE; simp [h14, h24, h40, h65, h118]
            have hH138 : Has E w134 [([Hp.one kb (.cells #[(.int .i64 v.id), (.int .i64 v.home), (.int .i64 v.first), (.int .i64 r.gsn), (.int .i64 v.state), x1, v125] 130 (0, 0))] ++ (s3 ++ s126)), [Hp.one b121 (.cells #[(.int .i64 r.undo), (.int .i64 ((v.changes.length : Nat) : Int))] 39 (0, 0))], [Hp.one b32 (.cells #[(.int .i64 ((v.changes.length : Nat) : Int))] 3 (0, 0))], [Hp.one b9 (.cells #[(.int .i64 r.kind), (.int .i64 r.gsn), (.int .i64 r.txn), (.int .i64 r.prev), (.int .i64 r.page), (S r.key), (.bool r.bh), (S r.bv), (.bool r.ah), (S r.av), (.int .i64 r.undo)] 32 (0, 0))], R] := Has.cl3 (((hH135.front 1 rfl).front 5 rfl).front 2 rfl)
            have hd139 : KnAt kb ([Hp.one kb (.cells #[(.int .i64 v.id), (.int .i64 v.home), (.int .i64 v.first), (.int .i64 r.gsn), (.int .i64 v.state), x1, v125] 130 (0, 0))] ++ (s3 ++ s126)) (⟨v.id, v.home, v.first, r.gsn, v.state, v.changes, v.places ++ [(r.undo, ((v.changes.length : Nat) : Int))]⟩ : Kn) := KnAt.mk (v := (⟨v.id, v.home, v.first, r.gsn, v.state, v.changes, v.places ++ [(r.undo, ((v.changes.length : Nat) : Int))]⟩ : Kn)) f5 ho127
            have q140 : (noteK v r) = (⟨v.id, v.home, v.first, r.gsn, v.state, v.changes, v.places ++ [(r.undo, ((v.changes.length : Nat) : Int))]⟩ : Kn) := by unfold noteK noteE stepK; simp [h14, h24, h40, h65, h118]
            have hH141 : Has E w134 [([Hp.one kb (.cells #[(.int .i64 v.id), (.int .i64 v.home), (.int .i64 v.first), (.int .i64 r.gsn), (.int .i64 v.state), x1, v125] 130 (0, 0))] ++ (s3 ++ s126)), R] := ((hH138.front 4 rfl).front 1 rfl).first 2 rfl
            exact ⟨_, by rw [q137], (by rw [q140]; exact hd139), hH141⟩
          · -- not: r.kind = 4
            refine wp_seq_k fun K142 hK142 => ?_
            refine c_region ?_
            refine s_op (o_eql (a := r.kind) (b := 5) rfl rfl ?_)
            refine s_op (o_assign (v := (.bool (decide (r.kind = 5)))) rfl ?_)
            refine s_nil ?_
            refine t_norm (hK142 _ _ ?_)
            refine c_cond rfl (fun h143 => ?_) (fun h143 => ?_)
            · -- r.kind = 5
              refine c_region ?_
              refine s_op (o_move (v := (.pointer (some ⟨kb, 0, none⟩))) rfl ?_)
              refine s_op (o_nilCheck rfl ?_)
              refine s_op (o_fieldAddr (k := 0) (fun _ => by kernel_rfl) rfl ?_)
              refine s_op (o_fieldAddr (k := 4) (fun _ => by kernel_rfl) rfl ?_)
              refine s_eff (o_store1 (c' := #[(.int .i64 v.id), (.int .i64 v.home), (.int .i64 v.first), (.int .i64 v.last), (.int .i64 2), x1, x2]) ti3 rfl rfl rfl (by simp) rfl (hH36.front 2 rfl) fun w144 hH145 => ?_)
              refine s_nil ?_
              refine b_norm ?_
              refine t_norm (hK37 _ _ ?_)
              refine wp_seq_k fun K146 hK146 => ?_
              refine c_region ?_
              refine s_op (o_move (v := (.pointer (some ⟨kb, 0, none⟩))) rfl ?_)
              refine s_op (o_fieldAddr (k := 1) (fun _ => by kernel_rfl) rfl ?_)
              refine s_op (o_load1 (v := (.int .i64 r.gsn)) Try.underlying3 rfl rfl hH145 (seg_sub 2 rfl) (CellsAt.one rfl) ?_)
              refine s_op (o_nilCheck rfl ?_)
              refine s_op (o_fieldAddr (k := 0) (fun _ => by kernel_rfl) rfl ?_)
              refine s_op (o_fieldAddr (k := 3) (fun _ => by kernel_rfl) rfl ?_)
              refine s_eff (o_store1 (c' := #[(.int .i64 v.id), (.int .i64 v.home), (.int .i64 v.first), (.int .i64 r.gsn), (.int .i64 2), x1, x2]) ti3 rfl rfl rfl (by simp) rfl (hH145.front 0 rfl) fun w147 hH148 => ?_)
              refine s_nil ?_
              refine t_norm (hK146 _ _ ?_)
              refine wp_seq_k fun K149 hK149 => ?_
              refine c_region ?_
              refine s_op (o_assign (v := (.int .i64 0)) rfl ?_)
              refine s_nil ?_
              refine t_norm (hK149 _ _ ?_)
              refine wp_ret ?_
              refine c_ret1 Try.results115  (v := (.int .i64 0)) rfl ?_
              have q150 : (noteE v r) = 0 := by unfold noteE; simp [h14, h24, h40, h65, h118, h143]
              have hH151 : Has E w147 [([Hp.one kb (.cells #[(.int .i64 v.id), (.int .i64 v.home), (.int .i64 v.first), (.int .i64 r.gsn), (.int .i64 2), x1, x2] 130 (0, 0))] ++ (s3 ++ s4)), [Hp.one b32 (.cells #[(.int .i64 ((v.changes.length : Nat) : Int))] 3 (0, 0))], [Hp.one b9 (.cells #[(.int .i64 r.kind), (.int .i64 r.gsn), (.int .i64 r.txn), (.int .i64 r.prev), (.int .i64 r.page), (S r.key), (.bool r.bh), (S r.bv), (.bool r.ah), (S r.av), (.int .i64 r.undo)] 32 (0, 0))], R] := Has.cl3 (((hH148.front 4 rfl).front 4 rfl).front 2 rfl)
              have hd152 : KnAt kb ([Hp.one kb (.cells #[(.int .i64 v.id), (.int .i64 v.home), (.int .i64 v.first), (.int .i64 r.gsn), (.int .i64 2), x1, x2] 130 (0, 0))] ++ (s3 ++ s4)) (⟨v.id, v.home, v.first, r.gsn, 2, v.changes, v.places⟩ : Kn) := KnAt.mk (v := (⟨v.id, v.home, v.first, r.gsn, 2, v.changes, v.places⟩ : Kn)) f5 f6
              have q153 : (noteK v r) = (⟨v.id, v.home, v.first, r.gsn, 2, v.changes, v.places⟩ : Kn) := by unfold noteK noteE stepK; simp [h14, h24, h40, h65, h118, h143]
              have hH154 : Has E w147 [([Hp.one kb (.cells #[(.int .i64 v.id), (.int .i64 v.home), (.int .i64 v.first), (.int .i64 r.gsn), (.int .i64 2), x1, x2] 130 (0, 0))] ++ (s3 ++ s4)), R] := ((hH151.front 3 rfl).front 1 rfl).first 2 rfl
              exact ⟨_, by rw [q150], (by rw [q153]; exact hd152), hH154⟩
            · -- not: r.kind = 5
              refine wp_seq_k fun K155 hK155 => ?_
              refine c_region ?_
              refine s_op (o_eql (a := r.kind) (b := 6) rfl rfl ?_)
              refine s_op (o_assign (v := (.bool (decide (r.kind = 6)))) rfl ?_)
              refine s_nil ?_
              refine t_norm (hK155 _ _ ?_)
              refine c_cond rfl (fun h156 => ?_) (fun h156 => ?_)
              · -- r.kind = 6
                refine c_region ?_
                refine s_op (o_move (v := (.pointer (some ⟨kb, 0, none⟩))) rfl ?_)
                refine s_op (o_nilCheck rfl ?_)
                refine s_op (o_fieldAddr (k := 0) (fun _ => by kernel_rfl) rfl ?_)
                refine s_op (o_fieldAddr (k := 4) (fun _ => by kernel_rfl) rfl ?_)
                refine s_eff (o_store1 (c' := #[(.int .i64 v.id), (.int .i64 v.home), (.int .i64 v.first), (.int .i64 v.last), (.int .i64 3), x1, x2]) ti3 rfl rfl rfl (by simp) rfl (hH36.front 2 rfl) fun w157 hH158 => ?_)
                refine s_nil ?_
                refine b_norm ?_
                refine t_norm (hK37 _ _ ?_)
                refine wp_seq_k fun K159 hK159 => ?_
                refine c_region ?_
                refine s_op (o_move (v := (.pointer (some ⟨kb, 0, none⟩))) rfl ?_)
                refine s_op (o_fieldAddr (k := 1) (fun _ => by kernel_rfl) rfl ?_)
                refine s_op (o_load1 (v := (.int .i64 r.gsn)) Try.underlying3 rfl rfl hH158 (seg_sub 2 rfl) (CellsAt.one rfl) ?_)
                refine s_op (o_nilCheck rfl ?_)
                refine s_op (o_fieldAddr (k := 0) (fun _ => by kernel_rfl) rfl ?_)
                refine s_op (o_fieldAddr (k := 3) (fun _ => by kernel_rfl) rfl ?_)
                refine s_eff (o_store1 (c' := #[(.int .i64 v.id), (.int .i64 v.home), (.int .i64 v.first), (.int .i64 r.gsn), (.int .i64 3), x1, x2]) ti3 rfl rfl rfl (by simp) rfl (hH158.front 0 rfl) fun w160 hH161 => ?_)
                refine s_nil ?_
                refine t_norm (hK159 _ _ ?_)
                refine wp_seq_k fun K162 hK162 => ?_
                refine c_region ?_
                refine s_op (o_assign (v := (.int .i64 0)) rfl ?_)
                refine s_nil ?_
                refine t_norm (hK162 _ _ ?_)
                refine wp_ret ?_
                refine c_ret1 Try.results115  (v := (.int .i64 0)) rfl ?_
                have q163 : (noteE v r) = 0 := by unfold noteE; simp [h14, h24, h40, h65, h118, h143, h156]
                have hH164 : Has E w160 [([Hp.one kb (.cells #[(.int .i64 v.id), (.int .i64 v.home), (.int .i64 v.first), (.int .i64 r.gsn), (.int .i64 3), x1, x2] 130 (0, 0))] ++ (s3 ++ s4)), [Hp.one b32 (.cells #[(.int .i64 ((v.changes.length : Nat) : Int))] 3 (0, 0))], [Hp.one b9 (.cells #[(.int .i64 r.kind), (.int .i64 r.gsn), (.int .i64 r.txn), (.int .i64 r.prev), (.int .i64 r.page), (S r.key), (.bool r.bh), (S r.bv), (.bool r.ah), (S r.av), (.int .i64 r.undo)] 32 (0, 0))], R] := Has.cl3 (((hH161.front 4 rfl).front 4 rfl).front 2 rfl)
                have hd165 : KnAt kb ([Hp.one kb (.cells #[(.int .i64 v.id), (.int .i64 v.home), (.int .i64 v.first), (.int .i64 r.gsn), (.int .i64 3), x1, x2] 130 (0, 0))] ++ (s3 ++ s4)) (⟨v.id, v.home, v.first, r.gsn, 3, v.changes, v.places⟩ : Kn) := KnAt.mk (v := (⟨v.id, v.home, v.first, r.gsn, 3, v.changes, v.places⟩ : Kn)) f5 f6
                have q166 : (noteK v r) = (⟨v.id, v.home, v.first, r.gsn, 3, v.changes, v.places⟩ : Kn) := by unfold noteK noteE stepK; simp [h14, h24, h40, h65, h118, h143, h156]
                have hH167 : Has E w160 [([Hp.one kb (.cells #[(.int .i64 v.id), (.int .i64 v.home), (.int .i64 v.first), (.int .i64 r.gsn), (.int .i64 3), x1, x2] 130 (0, 0))] ++ (s3 ++ s4)), R] := ((hH164.front 3 rfl).front 1 rfl).first 2 rfl
                exact ⟨_, by rw [q163], (by rw [q166]; exact hd165), hH167⟩
              · -- not: r.kind = 6
                refine wp_skip ?_
                refine b_norm ?_
                refine t_norm (hK37 _ _ ?_)
                refine wp_seq_k fun K168 hK168 => ?_
                refine c_region ?_
                refine s_op (o_move (v := (.pointer (some ⟨kb, 0, none⟩))) rfl ?_)
                refine s_op (o_fieldAddr (k := 1) (fun _ => by kernel_rfl) rfl ?_)
                refine s_op (o_load1 (v := (.int .i64 r.gsn)) Try.underlying3 rfl rfl hH36 (seg_sub 1 rfl) (CellsAt.one rfl) ?_)
                refine s_op (o_nilCheck rfl ?_)
                refine s_op (o_fieldAddr (k := 0) (fun _ => by kernel_rfl) rfl ?_)
                refine s_op (o_fieldAddr (k := 3) (fun _ => by kernel_rfl) rfl ?_)
                refine s_eff (o_store1 (c' := #[(.int .i64 v.id), (.int .i64 v.home), (.int .i64 v.first), (.int .i64 r.gsn), (.int .i64 v.state), x1, x2]) ti3 rfl rfl rfl (by simp) rfl (hH36.front 2 rfl) fun w169 hH170 => ?_)
                refine s_nil ?_
                refine t_norm (hK168 _ _ ?_)
                refine wp_seq_k fun K171 hK171 => ?_
                refine c_region ?_
                refine s_op (o_assign (v := (.int .i64 0)) rfl ?_)
                refine s_nil ?_
                refine t_norm (hK171 _ _ ?_)
                refine wp_ret ?_
                refine c_ret1 Try.results115  (v := (.int .i64 0)) rfl ?_
                have q172 : (noteE v r) = 0 := by unfold noteE; simp [h14, h24, h40, h65, h118, h143, h156]
                have hH173 : Has E w169 [([Hp.one kb (.cells #[(.int .i64 v.id), (.int .i64 v.home), (.int .i64 v.first), (.int .i64 r.gsn), (.int .i64 v.state), x1, x2] 130 (0, 0))] ++ (s3 ++ s4)), [Hp.one b32 (.cells #[(.int .i64 ((v.changes.length : Nat) : Int))] 3 (0, 0))], [Hp.one b9 (.cells #[(.int .i64 r.kind), (.int .i64 r.gsn), (.int .i64 r.txn), (.int .i64 r.prev), (.int .i64 r.page), (S r.key), (.bool r.bh), (S r.bv), (.bool r.ah), (S r.av), (.int .i64 r.undo)] 32 (0, 0))], R] := Has.cl3 (((hH170.front 4 rfl).front 4 rfl).front 2 rfl)
                have hd174 : KnAt kb ([Hp.one kb (.cells #[(.int .i64 v.id), (.int .i64 v.home), (.int .i64 v.first), (.int .i64 r.gsn), (.int .i64 v.state), x1, x2] 130 (0, 0))] ++ (s3 ++ s4)) (⟨v.id, v.home, v.first, r.gsn, v.state, v.changes, v.places⟩ : Kn) := KnAt.mk (v := (⟨v.id, v.home, v.first, r.gsn, v.state, v.changes, v.places⟩ : Kn)) f5 f6
                have q175 : (noteK v r) = (⟨v.id, v.home, v.first, r.gsn, v.state, v.changes, v.places⟩ : Kn) := by unfold noteK noteE stepK; simp [h14, h24, h40, h65, h118, h143, h156]
                have hH176 : Has E w169 [([Hp.one kb (.cells #[(.int .i64 v.id), (.int .i64 v.home), (.int .i64 v.first), (.int .i64 r.gsn), (.int .i64 v.state), x1, x2] 130 (0, 0))] ++ (s3 ++ s4)), R] := ((hH173.front 3 rfl).front 1 rfl).first 2 rfl
                exact ⟨_, by rw [q172], (by rw [q175]; exact hd174), hH176⟩
end Go.Q
