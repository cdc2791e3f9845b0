/-
  Parts of a walk: what functions of the program compute, each told by a theorem (QETx5, QETx6, QETxI, QETxJ, QETxN, QY, QERdTx).
-/
import Derived.Test.YtcffibbdbalmjaaB3
import Derived.ChangeArms
import Derived.WideShapes
import Derived.DataElems
set_option linter.unusedVariables false
set_option linter.unusedSimpArgs false
namespace Go.Q
open Go.Proofs
set_option linter.unusedVariables false
set_option maxRecDepth 100000
attribute [local irreducible] wpList OK Code.wp
def TtAt (b : Nat) (sg : List Hp) (v : TxnS) : Prop := ∃ (x0 : Nat) (h0 : List Hp), sg = ([Hp.one b (.cells #[(.map (some x0))] 125 (0, 0))] ++ h0) ∧ (DirAt iV KnAt x0 h0 v.m)
def TtRd (R : List Hp) (b : Nat) (v : TxnS) : Prop := ∃ (x0 : Nat), CellsAt R b 0 [(.map (some x0))] ∧ (DirRd iV KnRd R x0 v.m)
theorem TtAt.mk {b : Nat} {v : TxnS} {x0 : Nat} {h0 : List Hp} (f0 : DirAt iV KnAt x0 h0 v.m) : TtAt b (([Hp.one b (.cells #[(.map (some x0))] 125 (0, 0))] ++ h0)) v := ⟨_, _, rfl, f0⟩
theorem TtRd.mk {R : List Hp} {b : Nat} {v : TxnS} {x0 : Nat} (hc : CellsAt R b 0 [(.map (some x0))]) (f0 : DirRd iV KnRd R x0 v.m) : TtRd R b v := ⟨_, hc, f0⟩
theorem TtRd.mono {R R' : List Hp} {b : Nat} {v : TxnS} (h : TtRd R b v) (hs : R ⊆ R') : TtRd R' b v := by
  obtain ⟨x0, hc, f0⟩ := h
  exact TtRd.mk (hc.mono hs) (DirRd.mono (Rd := KnRd) KnRd.mono f0 hs)
theorem TtAt.rd {b : Nat} {sg : List Hp} {v : TxnS} (h : TtAt b sg v) : TtRd sg b v := by
  obtain ⟨x0, h0, rfl, f0⟩ := h
  exact TtRd.mk ((CellsAt.one rfl).mono (fun _ g_ => List.mem_append_left _ g_)) (DirRd.mono (Rd := KnRd) KnRd.mono (DirAt.rd (Rd := KnRd) KnRd.mono KnAt.rd f0) (fun _ g_ => List.mem_append_right _ (g_)))
set_option maxHeartbeats 4000000 in
theorem tnew_c {E w : World} {R : List Hp}   (hH : Has E w [R]) :
    Calls Try.prog 17 #[] w fun e w' => ∃ (b1' : Nat) (sg2' : List Hp), e = .returned (.pointer (some ⟨b1', 0, none⟩)) ∧ (TtAt b1' sg2' (⟨[]⟩ : TxnS)) ∧ Has E w' [sg2', R] := by
  refine c_enter (args := []) Try.func17 rfl Try.ntmps17 (by simp) ?_
  refine wp_seq_k fun K1 hK1 => ?_
  refine c_region ?_
  refine s_op (o_assign (v := (.pointer none)) rfl ?_)
  refine s_nil ?_
  refine t_norm (hK1 _ _ ?_)
  refine wp_seq_k fun K2 hK2 => ?_
  refine c_region ?_
  refine s_op (o_makeMap hH fun m3 w4 hH5 => ?_)
  refine s_op (o_sight (v := (.agg #[(.map (some m3))])) (fun _ => by kernel_rfl) ?_)
  refine s_op (o_box (cs := #[(.map (some m3))]) rfl rfl hH5 fun b6 w7 hH8 => ?_)
  refine s_op (o_assign (v := (.pointer (some ⟨b6, 0, none⟩))) rfl ?_)
  refine s_nil ?_
  refine t_norm (hK2 _ _ ?_)
  refine wp_ret ?_
  refine c_ret1 Try.results17  (v := (.pointer (some ⟨b6, 0, none⟩))) rfl ?_
  have hd9 : DirAt iV KnAt m3 [Hp.one m3 (.map #[] 0)] [] := DirAt.new
  have hH10 : Has E w7 [([Hp.one b6 (.cells #[(.map (some m3))] 125 (0, 0))] ++ [Hp.one m3 (.map #[] 0)]), R] := Has.cl2 ((hH8.front 1 rfl).front 1 rfl)
  have hd11 : TtAt b6 ([Hp.one b6 (.cells #[(.map (some m3))] 125 (0, 0))] ++ [Hp.one m3 (.map #[] 0)]) (⟨([] : List (Int × Kn))⟩ : TxnS) := TtAt.mk (v := (⟨([] : List (Int × Kn))⟩ : TxnS)) hd9
  have q12 : (⟨[]⟩ : TxnS) = (⟨([] : List (Int × Kn))⟩ : TxnS) := by rfl
  exact ⟨_, _, rfl, (by rw [q12]; exact hd11), hH10⟩
set_option maxHeartbeats 4000000 in
theorem one_c {E w : World} {R : List Hp} {tb : Nat} {sg_tb : List Hp} {v : TxnS} {home : Int} {r : Rec}  (hH : Has E w [sg_tb, R]) (h_tb : TtAt tb sg_tb v) (hsz : szK v.m 1000) :
    Calls Try.prog 68 #[(.pointer (some ⟨tb, 0, none⟩)), (.int .i64 home), (.agg #[(.int .i64 r.kind), (.int .i64 r.gsn), (.int .i64 r.txn), (.int .i64 r.prev), (.int .i64 r.page), (S r.key), (.bool r.bh), (S r.bv), (.bool r.ah), (S r.av), (.int .i64 r.undo)])] w fun e w' => ∃ (sg_tb' : List Hp), e = .returned (.int .i64 ((oneS v.m home r).2)) ∧ (TtAt tb sg_tb' (⟨(oneS v.m home r).1⟩ : TxnS)) ∧ Has E w' [sg_tb', R] := by
  obtain ⟨x1, s2, rfl, f3⟩ := h_tb
  have hH4 : Has E w [[Hp.one tb (.cells #[(.map (some x1))] 125 (0, 0))], s2, R] := Has.op2 hH
  refine c_enter (args := [(.pointer (some ⟨tb, 0, none⟩)), (.int .i64 home), (.agg #[(.int .i64 r.kind), (.int .i64 r.gsn), (.int .i64 r.txn), (.int .i64 r.prev), (.int .i64 r.page), (S r.key), (.bool r.bh), (S r.bv), (.bool r.ah), (S r.av), (.int .i64 r.undo)])]) Try.func68 rfl Try.ntmps68 (by simp) ?_
  refine wp_seq_k fun K5 hK5 => ?_
  refine c_region ?_
  refine s_op (o_box (cs := #[(.int .i64 r.kind), (.int .i64 r.gsn), (.int .i64 r.txn), (.int .i64 r.prev), (.int .i64 r.page), (S r.key), (.bool r.bh), (S r.bv), (.bool r.ah), (S r.av), (.int .i64 r.undo)]) rfl rfl hH4 fun b6 w7 hH8 => ?_)
  refine s_op (o_assign (v := (.int .i64 0)) rfl ?_)
  refine s_nil ?_
  refine t_norm (hK5 _ _ ?_)
  refine wp_seq_k fun K9 hK9 => ?_
  refine wp_seq_k fun K10 hK10 => ?_
  refine c_region ?_
  refine s_op (o_loadN (cs := [(.int .i64 r.kind), (.int .i64 r.gsn), (.int .i64 r.txn), (.int .i64 r.prev), (.int .i64 r.page), (S r.key), (.bool r.bh), (S r.bv), (.bool r.ah), (S r.av), (.int .i64 r.undo)]) Try.underlying32 rfl ti32 rfl hH8 (seg_sub 0 rfl) (CellsAt.one rfl) ?_)
  refine s_op (o_buildSlice (ps := #[(0, (.agg #[(.int .i64 r.kind), (.int .i64 r.gsn), (.int .i64 r.txn), (.int .i64 r.prev), (.int .i64 r.page), (S r.key), (.bool r.bh), (S r.bv), (.bool r.ah), (S r.av), (.int .i64 r.undo)]))]) (cells := #[(.int .i64 r.kind), (.int .i64 r.gsn), (.int .i64 r.txn), (.int .i64 r.prev), (.int .i64 r.page), (S r.key), (.bool r.bh), (S r.bv), (.bool r.ah), (S r.av), (.int .i64 r.undo)]) Try.underlying22 ti32 (by decide) (parts1 rfl) (by kernel_rfl) hH8 fun b11 w12 hH13 => ?_)
  refine s_op (o_callf (vs := #[(.slice (some ⟨b11, 0, none⟩) 1 1)]) ca114 rfl (args1 rfl) (rights_c (l := [r]) hH13.all ((sl_litF (f := recC) (l := [r]) recC_len rfl rfl (by simp)).mono (seg_sub 0 rfl))) ?_)
  rintro _ w16 ⟨rfl, hX14⟩
  refine ⟨_, rfl, ?_⟩
  have hH15 := hX14.of_all
  refine s_op (o_not rfl ?_)
  refine s_nil ?_
  refine t_norm (hK10 _ _ ?_)
  refine c_condb rfl (fun h17 => ?_) (fun h17 => ?_)
  · -- !([r].all rightR)
    have h17_n : ([r].all rightR) = false := by simpa using h17
    refine wp_seq_k fun K18 hK18 => ?_
    refine c_region ?_
    refine s_op (o_assign (v := (.int .i64 1)) rfl ?_)
    refine s_nil ?_
    refine t_norm (hK18 _ _ ?_)
    refine wp_ret ?_
    refine t_ret (c_ret1 Try.results68  (v := (.int .i64 1)) rfl ?_)
    have q19 : (oneS v.m home r).2 = 1 := by simp only [List.all_cons, List.all_nil, Bool.and_true, Bool.not_eq_true', Bool.not_eq_false'] at h17; unfold oneS newK; simp [putK_two, h17, h17_n]
    have hH20 : Has E w16 [([Hp.one tb (.cells #[(.map (some x1))] 125 (0, 0))] ++ s2), [Hp.one b11 (.cells #[(.int .i64 r.kind), (.int .i64 r.gsn), (.int .i64 r.txn), (.int .i64 r.prev), (.int .i64 r.page), (S r.key), (.bool r.bh), (S r.bv), (.bool r.ah), (S r.av), (.int .i64 r.undo)] 32 (0, 0))], [Hp.one b6 (.cells #[(.int .i64 r.kind), (.int .i64 r.gsn), (.int .i64 r.txn), (.int .i64 r.prev), (.int .i64 r.page), (S r.key), (.bool r.bh), (S r.bv), (.bool r.ah), (S r.av), (.int .i64 r.undo)] 32 (0, 0))], R] := Has.cl2 ((hH15.front 3 rfl).front 3 rfl)
    have hd21 : TtAt tb ([Hp.one tb (.cells #[(.map (some x1))] 125 (0, 0))] ++ s2) v := TtAt.mk (v := v) f3
    have q22 : (⟨(oneS v.m home r).1⟩ : TxnS) = v := by simp only [List.all_cons, List.all_nil, Bool.and_true, Bool.not_eq_true', Bool.not_eq_false'] at h17; unfold oneS newK; simp [putK_two, h17, h17_n]
    have hH23 : Has E w16 [([Hp.one tb (.cells #[(.map (some x1))] 125 (0, 0))] ++ s2), R] := ((hH20.front 3 rfl).front 1 rfl).first 2 rfl
    exact ⟨_, by rw [q19], (by rw [q22]; exact hd21), hH23⟩
  · -- not: !([r].all rightR)
    have h17_n : ([r].all rightR) = true := by simpa using h17
    refine wp_skip ?_
    refine t_norm (hK9 _ _ ?_)
    refine wp_seq_k fun K24 hK24 => ?_
    refine Rest.region mixed (by kernel_rfl) ?_
    have hH25 : Has E { w16 with drawn := w16.drawn + 1 } [[Hp.one b11 (.cells #[(.int .i64 r.kind), (.int .i64 r.gsn), (.int .i64 r.txn), (.int .i64 r.prev), (.int .i64 r.page), (S r.key), (.bool r.bh), (S r.bv), (.bool r.ah), (S r.av), (.int .i64 r.undo)] 32 (0, 0))], [Hp.one b6 (.cells #[(.int .i64 r.kind), (.int .i64 r.gsn), (.int .i64 r.txn), (.int .i64 r.prev), (.int .i64 r.page), (S r.key), (.bool r.bh), (S r.bv), (.bool r.ah), (S r.av), (.int .i64 r.undo)] 32 (0, 0))], [Hp.one tb (.cells #[(.map (some x1))] 125 (0, 0))], s2, R] := Has0.drew hH15 _
    refine Rest.phaseA (fun w_ => Has E w_ [[Hp.one b6 (.cells #[(.int .i64 r.kind), (.int .i64 r.gsn), (.int .i64 r.txn), (.int .i64 r.prev), (.int .i64 r.page), (S r.key), (.bool r.bh), (S r.bv), (.bool r.ah), (S r.av), (.int .i64 r.undo)] 32 (0, 0))], [Hp.one tb (.cells #[(.map (some x1))] 125 (0, 0))]]) 0 6 6 rfl (by decide) (by kernel_rfl) ?_
    refine a_op 0 rfl (by kernel_rfl) (fun w_ h_ => o_move (v := (.pointer (some ⟨tb, 0, none⟩))) rfl ⟨rfl, rfl⟩) ?_
    refine a_op 1 rfl (by kernel_rfl) (fun w_ h_ => o_nilCheck rfl ⟨rfl, rfl⟩) ?_
    refine a_op 2 rfl (by kernel_rfl) (fun w_ h_ => o_fieldAddr (k := 0) (fun _ => by kernel_rfl) rfl ⟨rfl, rfl⟩) ?_
    refine a_op 3 rfl (by kernel_rfl) (fun w_ h_ => o_load1 (v := (.map (some x1))) Try.underlying123 rfl rfl h_ (seg_sub 1 rfl) (CellsAt.one rfl) ⟨rfl, rfl⟩) ?_
    refine a_op 4 rfl (by kernel_rfl) (fun w_ h_ => o_fieldAddr (k := 2) (fun _ => by kernel_rfl) rfl ⟨rfl, rfl⟩) ?_
    refine a_op 5 rfl (by kernel_rfl) (fun w_ h_ => o_load1 (v := (.int .i64 r.txn)) Try.underlying3 rfl rfl h_ (seg_sub 0 rfl) (CellsAt.one rfl) ⟨rfl, rfl⟩) ?_
    have hH26 : Has E { w16 with drawn := w16.drawn + 1 } [[Hp.one b6 (.cells #[(.int .i64 r.kind), (.int .i64 r.gsn), (.int .i64 r.txn), (.int .i64 r.prev), (.int .i64 r.page), (S r.key), (.bool r.bh), (S r.bv), (.bool r.ah), (S r.av), (.int .i64 r.undo)] 32 (0, 0))], [Hp.one tb (.cells #[(.map (some x1))] 125 (0, 0))]] := ((hH25.front 2 rfl).front 2 rfl).first 2 rfl
    refine a_done (by kernel_rfl) hH26 ?_
    refine r_op 6 rfl (by kernel_rfl) (o_dirOut (k := r.txn) Try.underlying123 (key_int Try.underlying3) ti127 rfl rfl f3 (hH25.front 3 rfl) (fun hN27 => ?_) (fun b29 v30 sx31 sr32 hS28 hx33 hh34 hH35 => ?_))
    · -- none
      refine r_op 7 rfl (by kernel_rfl) (o_assign (v := (.pointer none)) rfl ?_)
      refine Rest.done (by kernel_rfl) ?_
      refine t_norm (hK24 _ _ ?_)
      refine wp_seq_k fun K36 hK36 => ?_
      refine wp_block ?_
      refine wp_seq_k fun K37 hK37 => ?_
      refine c_region ?_
      refine s_op (o_fieldAddr (k := 0) (fun _ => by kernel_rfl) rfl ?_)
      refine s_op (o_load1 (v := (.int .i64 r.kind)) Try.underlying3 rfl rfl hH25 (seg_sub 1 rfl) (CellsAt.one rfl) ?_)
      refine s_op (o_eql (a := r.kind) (b := 1) rfl rfl ?_)
      refine s_op (o_move (v := (.bool (decide (r.kind = 1)))) rfl ?_)
      by_cases h38 : r.kind = 1
      · -- r.kind = 1
        refine s_on 23 rfl (congrArg Value.bool (decide_eq_true h38)) (o_move (v := (.pointer none)) rfl ?_)
        refine s_on 23 rfl (congrArg Value.bool (decide_eq_true h38)) (o_pnnil (p := none) Try.underlying127 rfl rfl ?_)
        refine s_op (o_pick_t (u := (.bool false)) ((rfl : _ = _).trans (congrArg Value.bool (decide_eq_true h38))) rfl ?_)
        refine s_op (o_assign (v := (.bool false)) rfl ?_)
        refine s_nil ?_
        refine t_norm (hK37 _ _ ?_)
        refine c_false rfl rfl ?_
        refine wp_seq_k fun K39 hK39 => ?_
        refine c_region ?_
        refine s_op (o_fieldAddr (k := 0) (fun _ => by kernel_rfl) rfl ?_)
        refine s_op (o_load1 (v := (.int .i64 r.kind)) Try.underlying3 rfl rfl hH25 (seg_sub 1 rfl) (CellsAt.one rfl) ?_)
        refine s_op (o_eql (a := r.kind) (b := 1) rfl rfl ?_)
        refine s_op (o_assign (v := (.bool (decide (r.kind = 1)))) rfl ?_)
        refine s_nil ?_
        refine t_norm (hK39 _ _ ?_)
        refine c_true rfl (decide_eq_true h38) ?_
        refine wp_seq_k fun K40 hK40 => ?_
        refine Rest.region mixed (by kernel_rfl) ?_
        have hH41 : Has E { { w16 with drawn := w16.drawn + 1 } with drawn := { w16 with drawn := w16.drawn + 1 }.drawn + 1 } [[Hp.one b11 (.cells #[(.int .i64 r.kind), (.int .i64 r.gsn), (.int .i64 r.txn), (.int .i64 r.prev), (.int .i64 r.page), (S r.key), (.bool r.bh), (S r.bv), (.bool r.ah), (S r.av), (.int .i64 r.undo)] 32 (0, 0))], [Hp.one b6 (.cells #[(.int .i64 r.kind), (.int .i64 r.gsn), (.int .i64 r.txn), (.int .i64 r.prev), (.int .i64 r.page), (S r.key), (.bool r.bh), (S r.bv), (.bool r.ah), (S r.av), (.int .i64 r.undo)] 32 (0, 0))], [Hp.one tb (.cells #[(.map (some x1))] 125 (0, 0))], s2, R] := Has0.drew hH25 _
        refine Rest.phaseA (fun w_ => Has E w_ [[Hp.one b6 (.cells #[(.int .i64 r.kind), (.int .i64 r.gsn), (.int .i64 r.txn), (.int .i64 r.prev), (.int .i64 r.page), (S r.key), (.bool r.bh), (S r.bv), (.bool r.ah), (S r.av), (.int .i64 r.undo)] 32 (0, 0))], [Hp.one tb (.cells #[(.map (some x1))] 125 (0, 0))]]) 0 16 16 rfl (by decide) (by kernel_rfl) ?_
        refine a_op 0 rfl (by kernel_rfl) (fun w_ h_ => o_move (v := (.pointer (some ⟨tb, 0, none⟩))) rfl ⟨rfl, rfl⟩) ?_
        refine a_op 1 rfl (by kernel_rfl) (fun w_ h_ => o_nilCheck rfl ⟨rfl, rfl⟩) ?_
        refine a_op 2 rfl (by kernel_rfl) (fun w_ h_ => o_fieldAddr (k := 0) (fun _ => by kernel_rfl) rfl ⟨rfl, rfl⟩) ?_
        refine a_op 3 rfl (by kernel_rfl) (fun w_ h_ => o_load1 (v := (.map (some x1))) Try.underlying123 rfl rfl h_ (seg_sub 1 rfl) (CellsAt.one rfl) ⟨rfl, rfl⟩) ?_
        refine a_op 4 rfl (by kernel_rfl) (fun w_ h_ => o_fieldAddr (k := 2) (fun _ => by kernel_rfl) rfl ⟨rfl, rfl⟩) ?_
        refine a_op 5 rfl (by kernel_rfl) (fun w_ h_ => o_load1 (v := (.int .i64 r.txn)) Try.underlying3 rfl rfl h_ (seg_sub 0 rfl) (CellsAt.one rfl) ⟨rfl, rfl⟩) ?_
        refine a_op 6 rfl (by kernel_rfl) (fun w_ h_ => o_fieldAddr (k := 2) (fun _ => by kernel_rfl) rfl ⟨rfl, rfl⟩) ?_
        refine a_op 7 rfl (by kernel_rfl) (fun w_ h_ => o_load1 (v := (.int .i64 r.txn)) Try.underlying3 rfl rfl h_ (seg_sub 0 rfl) (CellsAt.one rfl) ⟨rfl, rfl⟩) ?_
        refine a_op 8 rfl (by kernel_rfl) (fun w_ h_ => o_move (v := (.int .i64 home)) rfl ⟨rfl, rfl⟩) ?_
        refine a_op 9 rfl (by kernel_rfl) (fun w_ h_ => o_fieldAddr (k := 1) (fun _ => by kernel_rfl) rfl ⟨rfl, rfl⟩) ?_
        refine a_op 10 rfl (by kernel_rfl) (fun w_ h_ => o_load1 (v := (.int .i64 r.gsn)) Try.underlying3 rfl rfl h_ (seg_sub 0 rfl) (CellsAt.one rfl) ⟨rfl, rfl⟩) ?_
        refine a_op 11 rfl (by kernel_rfl) (fun w_ h_ => o_fieldAddr (k := 1) (fun _ => by kernel_rfl) rfl ⟨rfl, rfl⟩) ?_
        refine a_op 12 rfl (by kernel_rfl) (fun w_ h_ => o_load1 (v := (.int .i64 r.gsn)) Try.underlying3 rfl rfl h_ (seg_sub 0 rfl) (CellsAt.one rfl) ⟨rfl, rfl⟩) ?_
        refine a_op 13 rfl (by kernel_rfl) (fun w_ h_ => o_sight (v := (.agg #[(.int .i64 r.txn), (.int .i64 home), (.int .i64 r.gsn), (.int .i64 r.gsn), (.int .i64 1), (.slice none 0 0), (.slice none 0 0)])) (fun _ => by kernel_rfl) ⟨rfl, rfl⟩) ?_
        refine a_op 14 rfl (by kernel_rfl) (fun w_ h_ => o_sight (v := (.agg #[(.int .i64 r.txn), (.int .i64 home), (.int .i64 r.gsn), (.int .i64 r.gsn), (.int .i64 1), (.slice none 0 0), (.slice none 0 0)])) (fun _ => by kernel_rfl) ⟨rfl, rfl⟩) ?_
        have hH42 : Has E { { w16 with drawn := w16.drawn + 1 } with drawn := { w16 with drawn := w16.drawn + 1 }.drawn + 1 } [[Hp.one b6 (.cells #[(.int .i64 r.kind), (.int .i64 r.gsn), (.int .i64 r.txn), (.int .i64 r.prev), (.int .i64 r.page), (S r.key), (.bool r.bh), (S r.bv), (.bool r.ah), (S r.av), (.int .i64 r.undo)] 32 (0, 0))], [Hp.one tb (.cells #[(.map (some x1))] 125 (0, 0))]] := ((hH41.front 2 rfl).front 2 rfl).first 2 rfl
        refine a_w 15 rfl (by kernel_rfl) hH42 (o_box (cs := #[(.int .i64 r.txn), (.int .i64 home), (.int .i64 r.gsn), (.int .i64 r.gsn), (.int .i64 1), (.slice none 0 0), (.slice none 0 0)]) rfl rfl hH41 fun b43 w44 hH45 => ?_)
        have hH46 : Has E w44 [[Hp.one b6 (.cells #[(.int .i64 r.kind), (.int .i64 r.gsn), (.int .i64 r.txn), (.int .i64 r.prev), (.int .i64 r.page), (S r.key), (.bool r.bh), (S r.bv), (.bool r.ah), (S r.av), (.int .i64 r.undo)] 32 (0, 0))], [Hp.one tb (.cells #[(.map (some x1))] 125 (0, 0))]] := ((hH45.front 3 rfl).front 3 rfl).first 2 rfl
        refine a_done (by kernel_rfl) hH46 ?_
        have hH47 := Has.nil hH45
        have hH48 := Has.nil hH47
        have hH49 : Has E w44 [([Hp.one b43 (.cells #[(.int .i64 r.txn), (.int .i64 home), (.int .i64 r.gsn), (.int .i64 r.gsn), (.int .i64 1), (.slice none 0 0), (.slice none 0 0)] 130 (0, 0))] ++ ([] ++ [])), [Hp.one b11 (.cells #[(.int .i64 r.kind), (.int .i64 r.gsn), (.int .i64 r.txn), (.int .i64 r.prev), (.int .i64 r.page), (S r.key), (.bool r.bh), (S r.bv), (.bool r.ah), (S r.av), (.int .i64 r.undo)] 32 (0, 0))], [Hp.one b6 (.cells #[(.int .i64 r.kind), (.int .i64 r.gsn), (.int .i64 r.txn), (.int .i64 r.prev), (.int .i64 r.page), (S r.key), (.bool r.bh), (S r.bv), (.bool r.ah), (S r.av), (.int .i64 r.undo)] 32 (0, 0))], [Hp.one tb (.cells #[(.map (some x1))] 125 (0, 0))], s2, R] := Has.cl3 (hH48.front 2 rfl)
        have hd50 : KnAt b43 ([Hp.one b43 (.cells #[(.int .i64 r.txn), (.int .i64 home), (.int .i64 r.gsn), (.int .i64 r.gsn), (.int .i64 1), (.slice none 0 0), (.slice none 0 0)] 130 (0, 0))] ++ ([] ++ [])) (⟨r.txn, home, r.gsn, r.gsn, 1, ([] : List Rec), ([] : List (Int × Int))⟩ : Kn) := KnAt.mk (v := (⟨r.txn, home, r.gsn, r.gsn, 1, ([] : List Rec), ([] : List (Int × Int))⟩ : Kn)) (Own.nil 32 11) (Own.nil 39 2)
        refine r_eff 16 rfl (by kernel_rfl) (o_dirPut (k := r.txn) Try.underlying123 (key_int Try.underlying3) rfl rfl rfl f3 hN27 hd50 (hH49.front 4 rfl) fun sr51 w52 hh53 hH54 => ?_)
        refine Rest.done (by kernel_rfl) ?_
        refine t_norm (hK40 _ _ ?_)
        refine wp_seq_k fun K55 hK55 => ?_
        refine c_region ?_
        refine s_op (o_assign (v := (.int .i64 0)) rfl ?_)
        refine s_nil ?_
        refine t_norm (hK55 _ _ ?_)
        refine wp_ret ?_
        refine b_ret (t_ret (c_ret1 Try.results68  (v := (.int .i64 0)) rfl ?_))
        have q56 : (oneS v.m home r).2 = 0 := by simp only [List.all_cons, List.all_nil, Bool.and_true, Bool.not_eq_true', Bool.not_eq_false'] at h17; unfold oneS newK; simp [putK_two, hN27, h17, h17_n, h38]
        obtain ⟨sg57, hd58, hH59⟩ := DirHole.close hh53 hd50 ((hH54.front 1 rfl).front 1 rfl)
        have hd58 : DirAt iV KnAt x1 sg57 (putB (putB v.m r.txn (⟨r.txn, home, r.gsn, r.gsn, 1, ([] : List Rec), ([] : List (Int × Int))⟩ : Kn)) r.txn (⟨r.txn, home, r.gsn, r.gsn, 1, ([] : List Rec), ([] : List (Int × Int))⟩ : Kn)) := hd58
        have hH60 : Has E w52 [([Hp.one tb (.cells #[(.map (some x1))] 125 (0, 0))] ++ sg57), [Hp.one b11 (.cells #[(.int .i64 r.kind), (.int .i64 r.gsn), (.int .i64 r.txn), (.int .i64 r.prev), (.int .i64 r.page), (S r.key), (.bool r.bh), (S r.bv), (.bool r.ah), (S r.av), (.int .i64 r.undo)] 32 (0, 0))], [Hp.one b6 (.cells #[(.int .i64 r.kind), (.int .i64 r.gsn), (.int .i64 r.txn), (.int .i64 r.prev), (.int .i64 r.page), (S r.key), (.bool r.bh), (S r.bv), (.bool r.ah), (S r.av), (.int .i64 r.undo)] 32 (0, 0))], R] := Has.cl2 (hH59.front 3 rfl)
        have hd61 : TtAt tb ([Hp.one tb (.cells #[(.map (some x1))] 125 (0, 0))] ++ sg57) (⟨(putB (putB v.m r.txn (⟨r.txn, home, r.gsn, r.gsn, 1, ([] : List Rec), ([] : List (Int × Int))⟩ : Kn)) r.txn (⟨r.txn, home, r.gsn, r.gsn, 1, ([] : List Rec), ([] : List (Int × Int))⟩ : Kn))⟩ : TxnS) := TtAt.mk (v := (⟨(putB (putB v.m r.txn (⟨r.txn, home, r.gsn, r.gsn, 1, ([] : List Rec), ([] : List (Int × Int))⟩ : Kn)) r.txn (⟨r.txn, home, r.gsn, r.gsn, 1, ([] : List Rec), ([] : List (Int × Int))⟩ : Kn))⟩ : TxnS)) hd58
        have q62 : (⟨(oneS v.m home r).1⟩ : TxnS) = (⟨(putB (putB v.m r.txn (⟨r.txn, home, r.gsn, r.gsn, 1, ([] : List Rec), ([] : List (Int × Int))⟩ : Kn)) r.txn (⟨r.txn, home, r.gsn, r.gsn, 1, ([] : List Rec), ([] : List (Int × Int))⟩ : Kn))⟩ : TxnS) := by simp only [List.all_cons, List.all_nil, Bool.and_true, Bool.not_eq_true', Bool.not_eq_false'] at h17; unfold oneS newK; simp [putK_two, hN27, h17, h17_n, h38]
        have hH63 : Has E w52 [([Hp.one tb (.cells #[(.map (some x1))] 125 (0, 0))] ++ sg57), R] := ((hH60.front 3 rfl).front 1 rfl).first 2 rfl
        exact ⟨_, by rw [q56], (by rw [q62]; exact hd61), hH63⟩
      · -- not: r.kind = 1
        refine s_off (b' := false) 23 rfl (congrArg Value.bool (decide_eq_false h38)) rfl ?_
        refine s_off (b' := false) 23 rfl (congrArg Value.bool (decide_eq_false h38)) rfl ?_
        refine s_op (o_pick_f (u := (.bool false)) ((rfl : _ = _).trans (congrArg Value.bool (decide_eq_false h38))) rfl ?_)
        refine s_op (o_assign (v := (.bool false)) rfl ?_)
        refine s_nil ?_
        refine t_norm (hK37 _ _ ?_)
        refine c_false rfl rfl ?_
        refine wp_seq_k fun K64 hK64 => ?_
        refine c_region ?_
        refine s_op (o_fieldAddr (k := 0) (fun _ => by kernel_rfl) rfl ?_)
        refine s_op (o_load1 (v := (.int .i64 r.kind)) Try.underlying3 rfl rfl hH25 (seg_sub 1 rfl) (CellsAt.one rfl) ?_)
        refine s_op (o_eql (a := r.kind) (b := 1) rfl rfl ?_)
        refine s_op (o_assign (v := (.bool (decide (r.kind = 1)))) rfl ?_)
        refine s_nil ?_
        refine t_norm (hK64 _ _ ?_)
        refine c_false rfl (decide_eq_false h38) ?_
        refine wp_seq_k fun K65 hK65 => ?_
        refine c_region ?_
        refine s_op (o_move (v := (.pointer none)) rfl ?_)
        refine s_op (o_pnil (p := none) Try.underlying127 rfl rfl ?_)
        refine s_op (o_assign (v := (.bool true)) rfl ?_)
        refine s_nil ?_
        refine t_norm (hK65 _ _ ?_)
        refine c_true rfl rfl ?_
        refine wp_seq_k fun K66 hK66 => ?_
        refine c_region ?_
        refine s_op (o_assign (v := (.int .i64 7)) rfl ?_)
        refine s_nil ?_
        refine t_norm (hK66 _ _ ?_)
        refine wp_ret ?_
        refine b_ret (t_ret (c_ret1 Try.results68  (v := (.int .i64 7)) rfl ?_))
        have q67 : (oneS v.m home r).2 = 7 := by simp only [List.all_cons, List.all_nil, Bool.and_true, Bool.not_eq_true', Bool.not_eq_false'] at h17; unfold oneS newK; simp [putK_two, hN27, h17, h17_n, h38]
        have hH68 : Has E { w16 with drawn := w16.drawn + 1 } [([Hp.one tb (.cells #[(.map (some x1))] 125 (0, 0))] ++ s2), [Hp.one b11 (.cells #[(.int .i64 r.kind), (.int .i64 r.gsn), (.int .i64 r.txn), (.int .i64 r.prev), (.int .i64 r.page), (S r.key), (.bool r.bh), (S r.bv), (.bool r.ah), (S r.av), (.int .i64 r.undo)] 32 (0, 0))], [Hp.one b6 (.cells #[(.int .i64 r.kind), (.int .i64 r.gsn), (.int .i64 r.txn), (.int .i64 r.prev), (.int .i64 r.page), (S r.key), (.bool r.bh), (S r.bv), (.bool r.ah), (S r.av), (.int .i64 r.undo)] 32 (0, 0))], R] := Has.cl2 ((hH25.front 3 rfl).front 3 rfl)
        have hd69 : TtAt tb ([Hp.one tb (.cells #[(.map (some x1))] 125 (0, 0))] ++ s2) v := TtAt.mk (v := v) f3
        have q70 : (⟨(oneS v.m home r).1⟩ : TxnS) = v := by simp only [List.all_cons, List.all_nil, Bool.and_true, Bool.not_eq_true', Bool.not_eq_false'] at h17; unfold oneS newK; simp [putK_two, hN27, h17, h17_n, h38]
        have hH71 : Has E { w16 with drawn := w16.drawn + 1 } [([Hp.one tb (.cells #[(.map (some x1))] 125 (0, 0))] ++ s2), R] := ((hH68.front 3 rfl).front 1 rfl).first 2 rfl
        exact ⟨_, by rw [q67], (by rw [q70]; exact hd69), hH71⟩
    · -- some
      have hsz_ := hsz.get hS28
      refine r_op 7 rfl (by kernel_rfl) (o_assign (v := (.pointer (some ⟨b29, 0, none⟩))) rfl ?_)
      refine Rest.done (by kernel_rfl) ?_
      refine t_norm (hK24 _ _ ?_)
      refine wp_seq_k fun K72 hK72 => ?_
      refine wp_block ?_
      refine wp_seq_k fun K73 hK73 => ?_
      refine c_region ?_
      refine s_op (o_fieldAddr (k := 0) (fun _ => by kernel_rfl) rfl ?_)
      refine s_op (o_load1 (v := (.int .i64 r.kind)) Try.underlying3 rfl rfl hH35 (seg_sub 3 rfl) (CellsAt.one rfl) ?_)
      refine s_op (o_eql (a := r.kind) (b := 1) rfl rfl ?_)
      refine s_op (o_move (v := (.bool (decide (r.kind = 1)))) rfl ?_)
      by_cases h74 : r.kind = 1
      · -- r.kind = 1
        refine s_on 23 rfl (congrArg Value.bool (decide_eq_true h74)) (o_move (v := (.pointer (some ⟨b29, 0, none⟩))) rfl ?_)
        refine s_on 23 rfl (congrArg Value.bool (decide_eq_true h74)) (o_pnnil (p := some _) Try.underlying127 rfl rfl ?_)
        refine s_op (o_pick_t (u := (.bool true)) ((rfl : _ = _).trans (congrArg Value.bool (decide_eq_true h74))) rfl ?_)
        refine s_op (o_assign (v := (.bool true)) rfl ?_)
        refine s_nil ?_
        refine t_norm (hK73 _ _ ?_)
        refine c_true rfl rfl ?_
        refine wp_seq_k fun K75 hK75 => ?_
        refine c_region ?_
        refine s_op (o_assign (v := (.int .i64 8)) rfl ?_)
        refine s_nil ?_
        refine t_norm (hK75 _ _ ?_)
        refine wp_ret ?_
        refine b_ret (t_ret (c_ret1 Try.results68  (v := (.int .i64 8)) rfl ?_))
        have q76 : (oneS v.m home r).2 = 8 := by simp only [List.all_cons, List.all_nil, Bool.and_true, Bool.not_eq_true', Bool.not_eq_false'] at h17; unfold oneS newK; simp [putK_two, hS28, putK_self hS28, h17, h17_n, h74]
        obtain ⟨sg77, hd78, hH79⟩ := DirHole.close hh34 hx33 ((hH35.front 1 rfl).front 1 rfl)
        have hd78 : DirAt iV KnAt x1 sg77 (putB v.m r.txn v30) := hd78
        have hH80 : Has E { w16 with drawn := w16.drawn + 1 } [([Hp.one tb (.cells #[(.map (some x1))] 125 (0, 0))] ++ sg77), [Hp.one b11 (.cells #[(.int .i64 r.kind), (.int .i64 r.gsn), (.int .i64 r.txn), (.int .i64 r.prev), (.int .i64 r.page), (S r.key), (.bool r.bh), (S r.bv), (.bool r.ah), (S r.av), (.int .i64 r.undo)] 32 (0, 0))], [Hp.one b6 (.cells #[(.int .i64 r.kind), (.int .i64 r.gsn), (.int .i64 r.txn), (.int .i64 r.prev), (.int .i64 r.page), (S r.key), (.bool r.bh), (S r.bv), (.bool r.ah), (S r.av), (.int .i64 r.undo)] 32 (0, 0))], R] := Has.cl2 (hH79.front 3 rfl)
        have hd81 : TtAt tb ([Hp.one tb (.cells #[(.map (some x1))] 125 (0, 0))] ++ sg77) (⟨(putB v.m r.txn v30)⟩ : TxnS) := TtAt.mk (v := (⟨(putB v.m r.txn v30)⟩ : TxnS)) hd78
        have q82 : (⟨(oneS v.m home r).1⟩ : TxnS) = (⟨(putB v.m r.txn v30)⟩ : TxnS) := by simp only [List.all_cons, List.all_nil, Bool.and_true, Bool.not_eq_true', Bool.not_eq_false'] at h17; unfold oneS newK; simp [putK_two, hS28, putK_self hS28, h17, h17_n, h74]
        have hH83 : Has E { w16 with drawn := w16.drawn + 1 } [([Hp.one tb (.cells #[(.map (some x1))] 125 (0, 0))] ++ sg77), R] := ((hH80.front 3 rfl).front 1 rfl).first 2 rfl
        exact ⟨_, by rw [q76], (by rw [q82]; exact hd81), hH83⟩
      · -- not: r.kind = 1
        refine s_off (b' := false) 23 rfl (congrArg Value.bool (decide_eq_false h74)) rfl ?_
        refine s_off (b' := false) 23 rfl (congrArg Value.bool (decide_eq_false h74)) rfl ?_
        refine s_op (o_pick_f (u := (.bool false)) ((rfl : _ = _).trans (congrArg Value.bool (decide_eq_false h74))) rfl ?_)
        refine s_op (o_assign (v := (.bool false)) rfl ?_)
        refine s_nil ?_
        refine t_norm (hK73 _ _ ?_)
        refine c_false rfl rfl ?_
        refine wp_seq_k fun K84 hK84 => ?_
        refine c_region ?_
        refine s_op (o_fieldAddr (k := 0) (fun _ => by kernel_rfl) rfl ?_)
        refine s_op (o_load1 (v := (.int .i64 r.kind)) Try.underlying3 rfl rfl hH35 (seg_sub 3 rfl) (CellsAt.one rfl) ?_)
        refine s_op (o_eql (a := r.kind) (b := 1) rfl rfl ?_)
        refine s_op (o_assign (v := (.bool (decide (r.kind = 1)))) rfl ?_)
        refine s_nil ?_
        refine t_norm (hK84 _ _ ?_)
        refine c_false rfl (decide_eq_false h74) ?_
        refine wp_seq_k fun K85 hK85 => ?_
        refine c_region ?_
        refine s_op (o_move (v := (.pointer (some ⟨b29, 0, none⟩))) rfl ?_)
        refine s_op (o_pnil (p := some _) Try.underlying127 rfl rfl ?_)
        refine s_op (o_assign (v := (.bool false)) rfl ?_)
        refine s_nil ?_
        refine t_norm (hK85 _ _ ?_)
        refine c_false rfl rfl ?_
        refine wp_skip ?_
        refine b_norm ?_
        refine t_norm (hK72 _ _ ?_)
        refine wp_seq_k fun K86 hK86 => ?_
        refine c_region ?_
        refine s_op (o_move (v := (.pointer (some ⟨b29, 0, none⟩))) rfl ?_)
        refine s_op (o_loadN (cs := [(.int .i64 r.kind), (.int .i64 r.gsn), (.int .i64 r.txn), (.int .i64 r.prev), (.int .i64 r.page), (S r.key), (.bool r.bh), (S r.bv), (.bool r.ah), (S r.av), (.int .i64 r.undo)]) Try.underlying32 rfl ti32 rfl hH35 (seg_sub 3 rfl) (CellsAt.one rfl) ?_)
        refine s_op (o_callf (vs := #[(.pointer (some ⟨b29, 0, none⟩)), (.agg #[(.int .i64 r.kind), (.int .i64 r.gsn), (.int .i64 r.txn), (.int .i64 r.prev), (.int .i64 r.page), (S r.key), (.bool r.bh), (S r.bv), (.bool r.ah), (S r.av), (.int .i64 r.undo)])]) ca115 rfl (args2 rfl rfl) (note_c (v := v30) (r := r) hH35.all1 hx33 (by first | omega | (simp only []; omega) | (simp; done) | (simp; omega))) ?_)
        rintro _ w91 ⟨sg87, rfl, hd88, hX89⟩
        refine ⟨_, rfl, ?_⟩
        have hH90 : Has E w91 [sg87, sr32, [Hp.one b11 (.cells #[(.int .i64 r.kind), (.int .i64 r.gsn), (.int .i64 r.txn), (.int .i64 r.prev), (.int .i64 r.page), (S r.key), (.bool r.bh), (S r.bv), (.bool r.ah), (S r.av), (.int .i64 r.undo)] 32 (0, 0))], [Hp.one b6 (.cells #[(.int .i64 r.kind), (.int .i64 r.gsn), (.int .i64 r.txn), (.int .i64 r.prev), (.int .i64 r.page), (S r.key), (.bool r.bh), (S r.bv), (.bool r.ah), (S r.av), (.int .i64 r.undo)] 32 (0, 0))], [Hp.one tb (.cells #[(.map (some x1))] 125 (0, 0))], R] := hX89.of_all1
        refine s_op (o_assign (v := (.int .i64 (noteE v30 r))) rfl ?_)
        refine s_nil ?_
        refine t_norm (hK86 _ _ ?_)
        refine wp_ret ?_
        refine c_ret1 Try.results68  (v := (.int .i64 (noteE v30 r))) rfl ?_
        have q92 : (oneS v.m home r).2 = (noteE v30 r) := by simp only [List.all_cons, List.all_nil, Bool.and_true, Bool.not_eq_true', Bool.not_eq_false'] at h17; unfold oneS newK; simp [putK_two, hS28, putK_self hS28, h17, h17_n, h74]
        obtain ⟨sg93, hd94, hH95⟩ := DirHole.close hh34 hd88 ((hH90.front 1 rfl).front 1 rfl)
        have hd94 : DirAt iV KnAt x1 sg93 (putB v.m r.txn (noteK v30 r)) := hd94
        have hH96 : Has E w91 [([Hp.one tb (.cells #[(.map (some x1))] 125 (0, 0))] ++ sg93), [Hp.one b11 (.cells #[(.int .i64 r.kind), (.int .i64 r.gsn), (.int .i64 r.txn), (.int .i64 r.prev), (.int .i64 r.page), (S r.key), (.bool r.bh), (S r.bv), (.bool r.ah), (S r.av), (.int .i64 r.undo)] 32 (0, 0))], [Hp.one b6 (.cells #[(.int .i64 r.kind), (.int .i64 r.gsn), (.int .i64 r.txn), (.int .i64 r.prev), (.int .i64 r.page), (S r.key), (.bool r.bh), (S r.bv), (.bool r.ah), (S r.av), (.int .i64 r.undo)] 32 (0, 0))], R] := Has.cl2 (hH95.front 3 rfl)
        have hd97 : TtAt tb ([Hp.one tb (.cells #[(.map (some x1))] 125 (0, 0))] ++ sg93) (⟨(putB v.m r.txn (noteK v30 r))⟩ : TxnS) := TtAt.mk (v := (⟨(putB v.m r.txn (noteK v30 r))⟩ : TxnS)) hd94
        have q98 : (⟨(oneS v.m home r).1⟩ : TxnS) = (⟨(putB v.m r.txn (noteK v30 r))⟩ : TxnS) := by simp only [List.all_cons, List.all_nil, Bool.and_true, Bool.not_eq_true', Bool.not_eq_false'] at h17; unfold oneS newK; simp [putK_two, hS28, putK_self hS28, h17, h17_n, h74]
        have hH99 : Has E w91 [([Hp.one tb (.cells #[(.map (some x1))] 125 (0, 0))] ++ sg93), R] := ((hH96.front 3 rfl).front 1 rfl).first 2 rfl
        exact ⟨_, by rw [q92], (by rw [q98]; exact hd97), hH99⟩
end Go.Q
namespace Go.Q
open Go.Proofs
set_option linter.unusedVariables false
set_option maxRecDepth 100000
attribute [local irreducible] wpList OK Code.wp
set_option maxHeartbeats 4000000 in
theorem tnote_c {E w : World} {R : List Hp} {tb : Nat} {sg_tb : List Hp} {v : TxnS} {home : Int} {v_l : Value} {l : List Rec} {n : Nat} (hH : Has E w [sg_tb, R]) (h_tb : TtAt tb sg_tb v) (h_l : Sl R 11 v_l l.length (l.flatMap recC)) (hsz : szK v.m n) (hnn : n + l.length ≤ 1000) :
    Calls Try.prog 18 #[(.pointer (some ⟨tb, 0, none⟩)), (.int .i64 home), v_l] w fun e w' => ∃ (sg_tb' : List Hp), e = .returned (.int .i64 ((noteL home v.m l).2)) ∧ (TtAt tb sg_tb' (⟨(noteL home v.m l).1⟩ : TxnS)) ∧ Has E w' [sg_tb', R] := by
  have hn_ := h_l.le
  obtain ⟨x1, s2, rfl, f3⟩ := h_tb
  have hH4 : Has E w [[Hp.one tb (.cells #[(.map (some x1))] 125 (0, 0))], s2, R] := Has.op2 hH
  refine c_enter (args := [(.pointer (some ⟨tb, 0, none⟩)), (.int .i64 home), v_l]) Try.func18 rfl Try.ntmps18 (by simp) ?_
  refine wp_seq_k fun K5 hK5 => ?_
  refine c_region ?_
  refine s_op (o_assign (v := (.int .i64 0)) rfl ?_)
  refine s_nil ?_
  refine t_norm (hK5 _ _ ?_)
  refine wp_seq_k fun K6 hK6 => ?_
  refine wp_seq_k fun K7 hK7 => ?_
  refine c_region ?_
  refine s_op (o_move (v := (.pointer (some ⟨tb, 0, none⟩))) rfl ?_)
  refine s_op (o_pnil (p := some _) Try.underlying25 rfl rfl ?_)
  refine s_nil ?_
  refine t_norm (hK7 _ _ ?_)
  refine c_false rfl rfl ?_
  refine wp_skip ?_
  refine t_norm (hK6 _ _ ?_)
  refine wp_seq_k fun K8 hK8 => ?_
  refine wp_seq_k fun K9 hK9 => ?_
  refine c_region ?_
  refine s_op (o_move (v := v_l) rfl ?_)
  refine s_op (o_lenS Try.underlying22 rfl h_l ?_)
  refine s_op (o_move (v := (.int .i64 0)) rfl ?_)
  refine s_nil ?_
  refine t_norm (hK9 _ _ ?_)
  refine wp_block ?_
  have hH10 : Has E w [([Hp.one tb (.cells #[(.map (some x1))] 125 (0, 0))] ++ s2), R] := Has.cl2 ((hH4.front 1 rfl).front 1 rfl)
  have hd11 : TtAt tb ([Hp.one tb (.cells #[(.map (some x1))] 125 (0, 0))] ++ s2) v := TtAt.mk (v := v) f3
  let I13 : Nat → (Nat → Value) → World → Prop := fun n__ r__ w__ => ∃ (k : Nat) (t2 : KTab) (sg2 : List Hp), n__ = l.length - k ∧ Has E w__ [sg2, R] ∧ (k ≤ l.length) ∧ (TtAt tb sg2 (⟨t2⟩ : TxnS)) ∧ (szK t2 (n + k)) ∧ ((noteL home v.m l) = noteL home t2 (l.drop k)) ∧ r__ 0 = (.pointer (some ⟨tb, 0, none⟩)) ∧ r__ 1 = (.int .i64 home) ∧ r__ 2 = v_l ∧ r__ 11 = (.bool false) ∧ r__ 12 = v_l ∧ r__ 13 = (.int .i64 ((l.length : Nat) : Int)) ∧ r__ 14 = (.int .i64 (k : Int))
  refine c_loop I13 _ ⟨0, v.m, ([Hp.one tb (.cells #[(.map (some x1))] 125 (0, 0))] ++ s2), rfl, hH10, Nat.zero_le _, hd11, hsz, rfl, rfl, rfl, rfl, rfl, rfl, rfl, rfl⟩ ?_
  rintro n_ r16 w14 ⟨k, t2, sg2, rfl, hH15, hk, ht2, hs2, hnl, e12_0, e12_1, e12_2, e12_11, e12_12, e12_13, e12_14⟩
  refine wp_seq_k fun K17 hK17 => ?_
  refine c_region ?_
  refine s_op (o_lss (a := (k : Int)) (b := ((l.length : Nat) : Int)) e12_14 e12_13 ?_)
  refine s_nil ?_
  refine t_norm (hK17 _ _ ?_)
  refine wp_seq_k fun K18 hK18 => ?_
  refine c_cond rfl (fun h19 => ?_) (fun h19 => ?_)
  · -- (k : Int) < ((l.length : Nat) : Int)
    refine wp_skip ?_
    refine t_norm (hK18 _ _ ?_)
    refine wp_seq_k fun K20 hK20 => ?_
    refine wp_block ?_
    refine wp_seq_k fun K21 hK21 => ?_
    refine c_region ?_
    obtain ⟨x25, hx26⟩ : ∃ x_, l[((k : Int)).toNat]? = some x_ := get_some (by omega)
    refine s_op (o_indexF recC_len Try.underlying22 ti32 e12_12 h_l rfl e12_14 (by omega) hx26 fun b22 o23 hc24 => ?_)
    refine s_op (o_loadN (cs := [(.int .i64 x25.kind), (.int .i64 x25.gsn), (.int .i64 x25.txn), (.int .i64 x25.prev), (.int .i64 x25.page), (S x25.key), (.bool x25.bh), (S x25.bv), (.bool x25.ah), (S x25.av), (.int .i64 x25.undo)]) Try.underlying32 rfl ti32 rfl hH15 (seg_sub 1 rfl) hc24 ?_)
    refine s_op (o_alloc (cs := #[(.int .i64 0), (.int .i64 0), (.int .i64 0), (.int .i64 0), (.int .i64 0), (S ([] : List UInt8)), (.bool false), (S ([] : List UInt8)), (.bool false), (S ([] : List UInt8)), (.int .i64 0)]) ti32 rfl hH15 fun b27 w28 hH29 => ?_)
    refine s_eff (o_storeN (vs := [(.int .i64 x25.kind), (.int .i64 x25.gsn), (.int .i64 x25.txn), (.int .i64 x25.prev), (.int .i64 x25.page), (S x25.key), (.bool x25.bh), (S x25.bv), (.bool x25.ah), (S x25.av), (.int .i64 x25.undo)]) (c' := #[(.int .i64 x25.kind), (.int .i64 x25.gsn), (.int .i64 x25.txn), (.int .i64 x25.prev), (.int .i64 x25.page), (S x25.key), (.bool x25.bh), (S x25.bv), (.bool x25.ah), (S x25.av), (.int .i64 x25.undo)]) ti32 rfl rfl rfl rfl (by intro u hu; simp only [List.mem_cons, List.not_mem_nil, or_false] at hu; rcases hu with rfl | rfl | rfl | rfl | rfl | rfl | rfl | rfl | rfl | rfl | rfl <;> first | rfl) (by simp) (by kernel_rfl) (hH29.front 0 rfl) fun w30 hH31 => ?_)
    refine s_nil ?_
    refine t_norm (hK21 _ _ ?_)
    refine wp_seq_k fun K32 hK32 => ?_
    refine c_region ?_
    refine s_op (o_move (v := (.pointer (some ⟨tb, 0, none⟩))) e12_0 ?_)
    refine s_op (o_move (v := (.int .i64 home)) e12_1 ?_)
    refine s_op (o_loadN (cs := [(.int .i64 x25.kind), (.int .i64 x25.gsn), (.int .i64 x25.txn), (.int .i64 x25.prev), (.int .i64 x25.page), (S x25.key), (.bool x25.bh), (S x25.bv), (.bool x25.ah), (S x25.av), (.int .i64 x25.undo)]) Try.underlying32 rfl ti32 rfl hH31 (seg_sub 0 rfl) (CellsAt.one rfl) ?_)
    refine s_op (o_callf (vs := #[(.pointer (some ⟨tb, 0, none⟩)), (.int .i64 home), (.agg #[(.int .i64 x25.kind), (.int .i64 x25.gsn), (.int .i64 x25.txn), (.int .i64 x25.prev), (.int .i64 x25.page), (S x25.key), (.bool x25.bh), (S x25.bv), (.bool x25.ah), (S x25.av), (.int .i64 x25.undo)])]) ca68 rfl (args3 rfl rfl rfl) (one_c (v := (⟨t2⟩ : TxnS)) (home := home) (r := x25) (hH31.front 1 rfl).all1 ht2 (hs2.mono (by omega))) ?_)
    rintro _ w37 ⟨sg33, rfl, hd34, hX35⟩
    refine ⟨_, rfl, ?_⟩
    have hH36 : Has E w37 [sg33, [Hp.one b27 (.cells #[(.int .i64 x25.kind), (.int .i64 x25.gsn), (.int .i64 x25.txn), (.int .i64 x25.prev), (.int .i64 x25.page), (S x25.key), (.bool x25.bh), (S x25.bv), (.bool x25.ah), (S x25.av), (.int .i64 x25.undo)] 32 (0, 0))], R] := hX35.of_all1
    refine s_op (o_assign (v := (.int .i64 ((oneS (⟨t2⟩ : TxnS).m home x25).2))) rfl ?_)
    refine s_nil ?_
    refine t_norm (hK32 _ _ ?_)
    refine wp_seq_k fun K38 hK38 => ?_
    refine c_region ?_
    refine s_op (o_move (v := (.int .i64 ((oneS (⟨t2⟩ : TxnS).m home x25).2))) rfl ?_)
    refine s_op (o_neq (a := (oneS (⟨t2⟩ : TxnS).m home x25).2) (b := 0) rfl rfl ?_)
    refine s_nil ?_
    refine t_norm (hK38 _ _ ?_)
    refine c_cond rfl (fun h39 => ?_) (fun h39 => ?_)
    · -- (oneS (⟨t2⟩ : TxnS).m home x25).2 ≠ 0
      refine wp_seq_k fun K40 hK40 => ?_
      refine c_region ?_
      refine s_op (o_move (v := (.int .i64 ((oneS (⟨t2⟩ : TxnS).m home x25).2))) rfl ?_)
      refine s_op (o_assign (v := (.int .i64 ((oneS (⟨t2⟩ : TxnS).m home x25).2))) rfl ?_)
      refine s_nil ?_
      refine t_norm (hK40 _ _ ?_)
      refine wp_ret ?_
      refine b_ret (t_ret (t_ret (b_ret (t_ret (c_ret1 Try.results18  (v := (.int .i64 ((oneS (⟨t2⟩ : TxnS).m home x25).2))) rfl ?_)))))
      have hq_ := noteL_stop hnl (show l[k]? = some _ from hx26) h39
      have q41 : (noteL home v.m l).2 = (oneS (⟨t2⟩ : TxnS).m home x25).2 := by rw [hq_]
      have q42 : (⟨(noteL home v.m l).1⟩ : TxnS) = (⟨(oneS (⟨t2⟩ : TxnS).m home x25).1⟩ : TxnS) := by rw [hq_]
      have hH43 : Has E w37 [sg33, R] := ((hH36.front 2 rfl).front 1 rfl).first 2 rfl
      exact ⟨_, by rw [q41], (by rw [q42]; exact hd34), hH43⟩
    · -- not: (oneS (⟨t2⟩ : TxnS).m home x25).2 ≠ 0
      refine wp_skip ?_
      refine b_norm ?_
      refine t_norm (hK20 _ _ ?_)
      refine c_region ?_
      refine s_op (o_add (a := (k : Int)) (b := 1) e12_14 rfl (w64 (by omega) (by omega)) ?_)
      refine s_op (o_move (v := (.int .i64 ((k : Int) + 1))) rfl ?_)
      refine s_nil ?_
      have hH44 : Has E w37 [sg33, R] := ((hH36.front 2 rfl).front 1 rfl).first 2 rfl
      refine t_norm ⟨l.length - (k + 1), _, rfl, ?_, ?_⟩
      · omega
      · exact ⟨(k + 1), ((oneS (⟨t2⟩ : TxnS).m home x25).1), sg33, rfl, hH44, (by omega), (hd34), (hs2.one), (noteL_go hnl (show l[k]? = some _ from hx26) (Classical.not_not.1 h39)), e12_0, e12_1, e12_2, e12_11, e12_12, e12_13, rfl⟩
  · -- not: (k : Int) < ((l.length : Nat) : Int)
    refine wp_exit ?_
    refine t_exit (t_exit (x_in (?_)))
    refine t_norm (hK8 _ _ ?_)
    refine wp_seq_k fun K45 hK45 => ?_
    refine c_region ?_
    refine s_op (o_assign (v := (.int .i64 0)) rfl ?_)
    refine s_nil ?_
    refine t_norm (hK45 _ _ ?_)
    refine wp_ret ?_
    refine c_ret1 Try.results18  (v := (.int .i64 0)) rfl ?_
    have hq_ := noteL_end hnl (by omega)
    have q46 : (noteL home v.m l).2 = 0 := by rw [hq_]
    have q47 : (⟨(noteL home v.m l).1⟩ : TxnS) = (⟨t2⟩ : TxnS) := by rw [hq_]
    exact ⟨_, by rw [q46], (by rw [q47]; exact ht2), hH15⟩
set_option maxHeartbeats 4000000 in
theorem tget_c {E w : World} {R : List Hp} {tb : Nat} {v : TxnS} {id : Int}  (hH : Has E w [R]) (h_tb : TtRd R tb v) (hsz : szK v.m 1000) :
    Calls Try.prog 19 #[(.pointer (some ⟨tb, 0, none⟩)), (.int .i64 id)] w fun e w' => ∃ (v1' : Value) (s2' : List Hp) (v4' : Value) (s5' : List Hp), e = .returned (.tuple #[(.agg #[(.int .i64 (((getB v.m id).map (·.id)).getD 0)), (.int .i64 (((getB v.m id).map (·.home)).getD 0)), (.int .i64 (((getB v.m id).map (·.first)).getD 0)), (.int .i64 (((getB v.m id).map (·.last)).getD 0)), (.int .i64 (((getB v.m id).map (·.state)).getD 0)), v1', v4']), (.bool ((getB v.m id).isSome))]) ∧ (Own 32 11 v1' (((getB v.m id).map (·.changes)).getD []).length ((((getB v.m id).map (·.changes)).getD []).flatMap recC) s2') ∧ (Own 39 2 v4' (((getB v.m id).map (·.places)).getD []).length ((((getB v.m id).map (·.places)).getD []).flatMap tmC) s5') ∧ Has E w' [s2', s5', R] := by
  obtain ⟨x1, hc3, f2⟩ := h_tb
  refine c_enter (args := [(.pointer (some ⟨tb, 0, none⟩)), (.int .i64 id)]) Try.func19 rfl Try.ntmps19 (by simp) ?_
  refine wp_seq_k fun K4 hK4 => ?_
  refine c_region ?_
  refine s_op (o_alloc (cs := #[(.int .i64 0), (.int .i64 0), (.int .i64 0), (.int .i64 0), (.int .i64 0), (.slice none 0 0), (.slice none 0 0)]) ti35 rfl hH fun b5 w6 hH7 => ?_)
  refine s_op (o_assign (v := (.bool false)) rfl ?_)
  refine s_nil ?_
  refine t_norm (hK4 _ _ ?_)
  refine wp_seq_k fun K8 hK8 => ?_
  refine wp_seq_k fun K9 hK9 => ?_
  refine c_region ?_
  refine s_op (o_move (v := (.pointer (some ⟨tb, 0, none⟩))) rfl ?_)
  refine s_op (o_pnil (p := some _) Try.underlying25 rfl rfl ?_)
  refine s_op (o_move (v := (.bool false)) rfl ?_)
  refine s_on 8 rfl rfl (o_move (v := (.pointer (some ⟨tb, 0, none⟩))) rfl ?_)
  refine s_on 8 rfl rfl (o_nilCheck rfl ?_)
  refine s_on 8 rfl rfl (o_fieldAddr (k := 0) (fun _ => by kernel_rfl) rfl ?_)
  refine s_on 8 rfl rfl (o_load1 (v := (.map (some x1))) Try.underlying123 rfl rfl hH7 (seg_sub 1 rfl) (CellsAt.field (k := 0) (ds := [(.map (some x1))]) hc3 rfl) ?_)
  refine s_on 8 rfl rfl (o_move (v := (.int .i64 id)) rfl ?_)
  refine s_on 8 rfl rfl (o_dirRd (k := id) Try.underlying123 (key_int Try.underlying3) ti127 rfl rfl f2 hH7 (seg_sub 1 rfl) (fun hN10 => ?_) (fun b12 v13 hS11 hr14 => ?_))
  · -- none
    refine s_on 8 rfl rfl (o_pnil (p := none) Try.underlying127 rfl rfl ?_)
    refine s_op (o_pick_f (u := (.bool true)) rfl rfl ?_)
    refine s_nil ?_
    refine t_norm (hK9 _ _ ?_)
    refine c_true rfl rfl ?_
    refine wp_seq_k fun K15 hK15 => ?_
    refine c_region ?_
    refine s_op (o_sight (v := (.agg #[(.int .i64 0), (.int .i64 0), (.int .i64 0), (.int .i64 0), (.int .i64 0), (.slice none 0 0), (.slice none 0 0)])) (fun _ => by kernel_rfl) ?_)
    refine s_eff (o_storeN (vs := [(.int .i64 0), (.int .i64 0), (.int .i64 0), (.int .i64 0), (.int .i64 0), (.slice none 0 0), (.slice none 0 0)]) (c' := #[(.int .i64 0), (.int .i64 0), (.int .i64 0), (.int .i64 0), (.int .i64 0), (.slice none 0 0), (.slice none 0 0)]) ti35 rfl rfl rfl rfl (by intro u hu; simp only [List.mem_cons, List.not_mem_nil, or_false] at hu; rcases hu with rfl | rfl | rfl | rfl | rfl | rfl | rfl <;> first | rfl) (by simp) (by kernel_rfl) (hH7.front 0 rfl) fun w16 hH17 => ?_)
    refine s_op (o_assign (v := (.bool false)) rfl ?_)
    refine s_nil ?_
    refine t_norm (hK15 _ _ ?_)
    refine wp_ret ?_
    refine t_ret (c_retC2 Try.results19 rfl (run_loadVarN (cs := [(.int .i64 0), (.int .i64 0), (.int .i64 0), (.int .i64 0), (.int .i64 0), (.slice none 0 0), (.slice none 0 0)]) Try.underlying35 rfl ti35 hH17 (seg_sub 0 rfl) (CellsAt.one rfl)) (x := (.bool false)) rfl ?_)
    have q18 : (((getB v.m id).map (·.id)).getD 0) = 0 := by rw [hN10]; rfl
    have q19 : (((getB v.m id).map (·.home)).getD 0) = 0 := by rw [hN10]; rfl
    have q20 : (((getB v.m id).map (·.first)).getD 0) = 0 := by rw [hN10]; rfl
    have q21 : (((getB v.m id).map (·.last)).getD 0) = 0 := by rw [hN10]; rfl
    have q22 : (((getB v.m id).map (·.state)).getD 0) = 0 := by rw [hN10]; rfl
    have q23 : (((getB v.m id).map (·.changes)).getD []) = ([] : List Rec) := by rw [hN10]; rfl
    have q24 : (((getB v.m id).map (·.places)).getD []) = ([] : List (Int × Int)) := by rw [hN10]; rfl
    have q25 : (getB v.m id).isSome = false := by rw [hN10]; rfl
    have hH26 : Has E w16 [[], [], R] := (Has.nil (Has.nil (hH17.front 1 rfl))).first 3 rfl
    exact ⟨_, _, _, _, by rw [q18, q19, q20, q21, q22]; rw [q25], (by rw [q23]; exact (Own.nil 32 11)), (by rw [q24]; exact (Own.nil 39 2)), hH26⟩
  · -- some
    have hsz_ := hsz.get hS11
    obtain ⟨x27, x28, hc31, f29, f30⟩ := hr14
    have f29_n := f29.le
    have f30_n := f30.le
    refine s_on 8 rfl rfl (o_pnil (p := some _) Try.underlying127 rfl rfl ?_)
    refine s_op (o_pick_f (u := (.bool false)) rfl rfl ?_)
    refine s_nil ?_
    refine t_norm (hK9 _ _ ?_)
    refine c_false rfl rfl ?_
    refine wp_skip ?_
    refine t_norm (hK8 _ _ ?_)
    refine wp_seq_k fun K32 hK32 => ?_
    refine c_region ?_
    refine s_op (o_move (v := (.pointer (some ⟨tb, 0, none⟩))) rfl ?_)
    refine s_op (o_nilCheck rfl ?_)
    refine s_op (o_fieldAddr (k := 0) (fun _ => by kernel_rfl) rfl ?_)
    refine s_op (o_load1 (v := (.map (some x1))) Try.underlying123 rfl rfl hH7 (seg_sub 1 rfl) (CellsAt.field (k := 0) (ds := [(.map (some x1))]) hc3 rfl) ?_)
    refine s_op (o_move (v := (.int .i64 id)) rfl ?_)
    refine s_op (o_dirRd (k := id) Try.underlying123 (key_int Try.underlying3) ti127 rfl rfl f2 hH7 (seg_sub 1 rfl) (fun hN33 => ?_) (fun b35 v36 hS34 hr37 => ?_))
    · -- none
      exact absurd (Eq.trans (Eq.symm hS11) hN33) (by simp)
    · -- some
      have e_ : v13 = v36 := Option.some.inj (Eq.trans (Eq.symm hS11) hS34)
      subst e_
      have hsz_ := hsz.get hS34
      obtain ⟨x38, x39, hc42, f40, f41⟩ := hr37
      have f40_n := f40.le
      have f41_n := f41.le
      refine s_op (o_callf (vs := #[(.pointer (some ⟨b35, 0, none⟩))]) ca69 rfl (args1 rfl) (told_c (v := v13) hH7.all ((KnRd.mk hc42 f40 f41).mono (seg_sub 1 rfl)) (by first | omega | (simp only []; omega) | (simp; done) | (simp; omega))) ?_)
      rintro _ w51 ⟨v43, s44, v46, s47, rfl, ho45, ho48, hX49⟩
      refine ⟨_, rfl, ?_⟩
      have hH50 : Has E w51 [s44, s47, [Hp.one b5 (.cells #[(.int .i64 0), (.int .i64 0), (.int .i64 0), (.int .i64 0), (.int .i64 0), (.slice none 0 0), (.slice none 0 0)] 35 (0, 0))], R] := hX49.of_all2
      refine s_eff (o_storeN (vs := [(.int .i64 v13.id), (.int .i64 v13.home), (.int .i64 v13.first), (.int .i64 v13.last), (.int .i64 v13.state), v43, v46]) (c' := #[(.int .i64 v13.id), (.int .i64 v13.home), (.int .i64 v13.first), (.int .i64 v13.last), (.int .i64 v13.state), v43, v46]) ti35 rfl rfl rfl rfl (by intro u hu; simp only [List.mem_cons, List.not_mem_nil, or_false] at hu; rcases hu with rfl | rfl | rfl | rfl | rfl | rfl | rfl <;> first | rfl | exact ho45.one | exact ho48.one) (by simp) (by kernel_rfl) (hH50.front 2 rfl) fun w52 hH53 => ?_)
      refine s_op (o_assign (v := (.bool true)) rfl ?_)
      refine s_nil ?_
      refine t_norm (hK32 _ _ ?_)
      refine wp_ret ?_
      refine c_retC2 Try.results19 rfl (run_loadVarN (cs := [(.int .i64 v13.id), (.int .i64 v13.home), (.int .i64 v13.first), (.int .i64 v13.last), (.int .i64 v13.state), v43, v46]) Try.underlying35 rfl ti35 hH53 (seg_sub 0 rfl) (CellsAt.one rfl)) (x := (.bool true)) rfl ?_
      have q54 : (((getB v.m id).map (·.id)).getD 0) = v13.id := by rw [hS11]; rfl
      have q55 : (((getB v.m id).map (·.home)).getD 0) = v13.home := by rw [hS11]; rfl
      have q56 : (((getB v.m id).map (·.first)).getD 0) = v13.first := by rw [hS11]; rfl
      have q57 : (((getB v.m id).map (·.last)).getD 0) = v13.last := by rw [hS11]; rfl
      have q58 : (((getB v.m id).map (·.state)).getD 0) = v13.state := by rw [hS11]; rfl
      have q59 : (((getB v.m id).map (·.changes)).getD []) = v13.changes := by rw [hS11]; rfl
      have q60 : (((getB v.m id).map (·.places)).getD []) = v13.places := by rw [hS11]; rfl
      have q61 : (getB v.m id).isSome = true := by rw [hS11]; rfl
      have hH62 : Has E w52 [s44, s47, R] := (((hH53.front 3 rfl).front 3 rfl).front 3 rfl).first 3 rfl
      exact ⟨_, _, _, _, by rw [q54, q55, q56, q57, q58]; rw [q61], (by rw [q59]; exact ho45), (by rw [q60]; exact ho48), hH62⟩
end Go.Q
namespace Go.Q
open Go.Proofs
set_option linter.unusedVariables false
set_option maxRecDepth 100000
attribute [local irreducible] wpList OK Code.wp
set_option maxHeartbeats 4000000 in
theorem tback_c {E w : World} {R : List Hp} {tb : Nat} {v : TxnS} {id : Int} {v_no : Value} {no : List Int}  (hH : Has E w [R]) (h_tb : TtRd R tb v) (h_no : Sl R 1 v_no no.length (no.map iV)) (hsz : szK v.m 1000) (hok : TOk v.m) (hno : no.length ≤ 1000) :
    Calls Try.prog 20 #[(.pointer (some ⟨tb, 0, none⟩)), (.int .i64 id), v_no] w fun e w' => ∃ (v1' : Value) (s2' : List Hp), e = .returned (.tuple #[v1', (.int .i64 ((backT v.m id no).2))]) ∧ (Own 32 11 v1' ((backT v.m id no).1).length (((backT v.m id no).1).flatMap recC) s2') ∧ Has E w' [s2', R] := by
  obtain ⟨x1, hc3, f2⟩ := h_tb
  refine c_enter (args := [(.pointer (some ⟨tb, 0, none⟩)), (.int .i64 id), v_no]) Try.func20 rfl Try.ntmps20 (by simp) ?_
  refine wp_seq_k fun K4 hK4 => ?_
  refine c_region ?_
  refine s_op (o_assign (v := (.slice none 0 0)) rfl ?_)
  refine s_op (o_assign (v := (.int .i64 0)) rfl ?_)
  refine s_nil ?_
  refine t_norm (hK4 _ _ ?_)
  refine wp_seq_k fun K5 hK5 => ?_
  refine wp_seq_k fun K6 hK6 => ?_
  refine c_region ?_
  refine s_op (o_move (v := (.pointer (some ⟨tb, 0, none⟩))) rfl ?_)
  refine s_op (o_pnil (p := some _) Try.underlying25 rfl rfl ?_)
  refine s_nil ?_
  refine t_norm (hK6 _ _ ?_)
  refine c_false rfl rfl ?_
  refine wp_skip ?_
  refine t_norm (hK5 _ _ ?_)
  refine wp_seq_k fun K7 hK7 => ?_
  refine c_region ?_
  refine s_op (o_move (v := (.pointer (some ⟨tb, 0, none⟩))) rfl ?_)
  refine s_op (o_nilCheck rfl ?_)
  refine s_op (o_fieldAddr (k := 0) (fun _ => by kernel_rfl) rfl ?_)
  refine s_op (o_load1 (v := (.map (some x1))) Try.underlying123 rfl rfl hH (seg_sub 0 rfl) (CellsAt.field (k := 0) (ds := [(.map (some x1))]) hc3 rfl) ?_)
  refine s_op (o_move (v := (.int .i64 id)) rfl ?_)
  refine s_op (o_dirRd (k := id) Try.underlying123 (key_int Try.underlying3) ti127 rfl rfl f2 hH (seg_sub 0 rfl) (fun hN8 => ?_) (fun b10 v11 hS9 hr12 => ?_))
  · -- none
    refine s_op (o_assign (v := (.pointer none)) rfl ?_)
    refine s_nil ?_
    refine t_norm (hK7 _ _ ?_)
    refine wp_seq_k fun K13 hK13 => ?_
    refine wp_block ?_
    refine wp_seq_k fun K14 hK14 => ?_
    refine c_region ?_
    refine s_op (o_move (v := (.pointer none)) rfl ?_)
    refine s_op (o_pnil (p := none) Try.underlying127 rfl rfl ?_)
    refine s_op (o_assign (v := (.bool true)) rfl ?_)
    refine s_nil ?_
    refine t_norm (hK14 _ _ ?_)
    refine c_true rfl rfl ?_
    refine wp_seq_k fun K15 hK15 => ?_
    refine c_region ?_
    refine s_op (o_assign (v := (.slice none 0 0)) rfl ?_)
    refine s_op (o_assign (v := (.int .i64 7)) rfl ?_)
    refine s_nil ?_
    refine t_norm (hK15 _ _ ?_)
    refine wp_ret ?_
    refine b_ret (t_ret (c_ret2 Try.results20  (v := (.slice none 0 0)) rfl (x := (.int .i64 7)) rfl ?_))
    have q16 : (backT v.m id no).1 = ([] : List Rec) := by unfold backT; simp [hN8]
    have q17 : (backT v.m id no).2 = 7 := by unfold backT; simp [hN8]
    have hH18 : Has E w [[], R] := (Has.nil hH).first 2 rfl
    exact ⟨_, _, by rw [q17], (by rw [q16]; exact (Own.nil 32 11)), hH18⟩
  · -- some
    have hsz_ := hsz.get hS9
    have hok_ := hok.get hS9
    obtain ⟨x19, x20, hc23, f21, f22⟩ := hr12
    have f21_n := f21.le
    have f22_n := f22.le
    refine s_op (o_assign (v := (.pointer (some ⟨b10, 0, none⟩))) rfl ?_)
    refine s_nil ?_
    refine t_norm (hK7 _ _ ?_)
    refine wp_seq_k fun K24 hK24 => ?_
    refine wp_block ?_
    refine wp_seq_k fun K25 hK25 => ?_
    refine c_region ?_
    refine s_op (o_move (v := (.pointer (some ⟨b10, 0, none⟩))) rfl ?_)
    refine s_op (o_pnil (p := some _) Try.underlying127 rfl rfl ?_)
    refine s_op (o_assign (v := (.bool false)) rfl ?_)
    refine s_nil ?_
    refine t_norm (hK25 _ _ ?_)
    refine c_false rfl rfl ?_
    refine wp_seq_k fun K26 hK26 => ?_
    refine c_region ?_
    refine s_op (o_move (v := (.pointer (some ⟨b10, 0, none⟩))) rfl ?_)
    refine s_op (o_nilCheck rfl ?_)
    refine s_op (o_fieldAddr (k := 0) (fun _ => by kernel_rfl) rfl ?_)
    refine s_op (o_fieldAddr (k := 4) (fun _ => by kernel_rfl) rfl ?_)
    refine s_op (o_load1 (v := (.int .i64 v11.state)) Try.underlying3 rfl rfl hH (seg_sub 0 rfl) (CellsAt.field (k := 4) (ds := [(.int .i64 v11.state)]) (CellsAt.field (k := 0) (ds := [(.int .i64 v11.id), (.int .i64 v11.home), (.int .i64 v11.first), (.int .i64 v11.last), (.int .i64 v11.state), x19, x20]) hc23 rfl) rfl) ?_)
    refine s_op (o_neq (a := v11.state) (b := 1) rfl rfl ?_)
    refine s_op (o_assign (v := (.bool (decide (v11.state ≠ 1)))) rfl ?_)
    refine s_nil ?_
    refine t_norm (hK26 _ _ ?_)
    refine c_cond rfl (fun h27 => ?_) (fun h27 => ?_)
    · -- v11.state ≠ 1
      refine wp_seq_k fun K28 hK28 => ?_
      refine c_region ?_
      refine s_op (o_assign (v := (.slice none 0 0)) rfl ?_)
      refine s_op (o_assign (v := (.int .i64 12)) rfl ?_)
      refine s_nil ?_
      refine t_norm (hK28 _ _ ?_)
      refine wp_ret ?_
      refine b_ret (t_ret (c_ret2 Try.results20  (v := (.slice none 0 0)) rfl (x := (.int .i64 12)) rfl ?_))
      have q29 : (backT v.m id no).1 = ([] : List Rec) := by unfold backT; simp [hS9, h27]
      have q30 : (backT v.m id no).2 = 12 := by unfold backT; simp [hS9, h27]
      have hH31 : Has E w [[], R] := (Has.nil hH).first 2 rfl
      exact ⟨_, _, by rw [q30], (by rw [q29]; exact (Own.nil 32 11)), hH31⟩
    · -- not: v11.state ≠ 1
      refine wp_skip ?_
      refine b_norm ?_
      refine t_norm (hK24 _ _ ?_)
      refine wp_seq_k fun K32 hK32 => ?_
      refine c_region ?_
      refine s_op (o_move (v := (.pointer (some ⟨b10, 0, none⟩))) rfl ?_)
      refine s_op (o_move (v := v_no) rfl ?_)
      refine s_op (o_callf (vs := #[(.pointer (some ⟨b10, 0, none⟩)), v_no]) ca70 rfl (args2 rfl rfl) (from_c (v := v11) (no := no) hH.all ((KnRd.mk hc23 f21 f22).mono (seg_sub 0 rfl)) (h_no.mono (seg_sub 0 rfl)) (by first | omega | (simp only []; omega) | (simp; done) | (simp; omega))) ?_)
      rintro _ w35 ⟨rfl, hX33⟩
      refine ⟨_, rfl, ?_⟩
      have hH34 := hX33.of_all
      have hfr_ := fromK_le hok_ no
      refine s_op (o_assign (v := (.int .i64 (fromK v11.places no))) rfl ?_)
      refine s_nil ?_
      refine t_norm (hK32 _ _ ?_)
      refine wp_seq_k fun K36 hK36 => ?_
      refine wp_seq_k fun K37 hK37 => ?_
      refine c_region ?_
      refine s_op (o_move (v := (.int .i64 (fromK v11.places no))) rfl ?_)
      refine s_op (o_lss (a := (fromK v11.places no)) (b := 0) rfl rfl ?_)
      refine s_nil ?_
      refine t_norm (hK37 _ _ ?_)
      refine c_cond rfl (fun h38 => ?_) (fun h38 => ?_)
      · -- (fromK v11.places no) < 0
        refine wp_seq_k fun K39 hK39 => ?_
        refine c_region ?_
        refine s_op (o_assign (v := (.slice none 0 0)) rfl ?_)
        refine s_op (o_assign (v := (.int .i64 7)) rfl ?_)
        refine s_nil ?_
        refine t_norm (hK39 _ _ ?_)
        refine wp_ret ?_
        refine t_ret (c_ret2 Try.results20  (v := (.slice none 0 0)) rfl (x := (.int .i64 7)) rfl ?_)
        have q40 : (backT v.m id no).1 = ([] : List Rec) := by unfold backT; simp [hS9, h27, h38]
        have q41 : (backT v.m id no).2 = 7 := by unfold backT; simp [hS9, h27, h38]
        have hH42 : Has E w35 [[], R] := (Has.nil hH34).first 2 rfl
        exact ⟨_, _, by rw [q41], (by rw [q40]; exact (Own.nil 32 11)), hH42⟩
      · -- not: (fromK v11.places no) < 0
        have hdl_ : (v11.changes.drop (fromK v11.places no).toNat).length ≤ 1000 := by rw [List.length_drop]; omega
        refine wp_skip ?_
        refine t_norm (hK36 _ _ ?_)
        refine wp_seq_k fun K43 hK43 => ?_
        refine c_region ?_
        refine s_op (o_move (v := (.pointer (some ⟨b10, 0, none⟩))) rfl ?_)
        refine s_op (o_nilCheck rfl ?_)
        refine s_op (o_fieldAddr (k := 0) (fun _ => by kernel_rfl) rfl ?_)
        refine s_op (o_fieldAddr (k := 5) (fun _ => by kernel_rfl) rfl ?_)
        refine s_op (o_load1 (v := x19) Try.underlying22 rfl rfl hH34 (seg_sub 0 rfl) (CellsAt.field (k := 5) (ds := [x19]) (CellsAt.field (k := 0) (ds := [(.int .i64 v11.id), (.int .i64 v11.home), (.int .i64 v11.first), (.int .i64 v11.last), (.int .i64 v11.state), x19, x20]) hc23 rfl) rfl) ?_)
        refine s_op (o_move (v := (.int .i64 (fromK v11.places no))) rfl ?_)
        refine s_op (o_sl_l Try.underlying22 ti32 rfl f21 rfl (by omega) (by omega) fun v44 hv45 => ?_)
        have hv46 := sl_dropF recC_len hv45
        refine s_op (o_callf (vs := #[v44]) ca71 rfl (args1 rfl) (rclone_c (l := v11.changes.drop ((fromK v11.places no)).toNat) hH34.all (hv46.mono (seg_sub 0 rfl)) (by first | omega | (simp only []; omega) | (simp; done) | (simp; omega))) ?_)
        rintro _ w52 ⟨v47, s48, rfl, ho49, hX50⟩
        refine ⟨_, rfl, ?_⟩
        have hH51 : Has E w52 [s48, R] := hX50.of_all1
        refine s_op (o_assign (v := v47) rfl ?_)
        refine s_nil ?_
        refine t_norm (hK43 _ _ ?_)
        refine wp_seq_k fun K53 hK53 => ?_
        refine c_region ?_
        refine s_op (o_move (v := v47) rfl ?_)
        refine s_op (o_callf (vs := #[v47]) ca72 rfl (args1 rfl) (rrev_c hH51.all1 ho49 (by omega)) ?_)
        rintro _ w58 ⟨s54, rfl, ho55, hX56⟩
        refine ⟨_, rfl, ?_⟩
        have hH57 : Has E w58 [s54, R] := hX56.of_all1
        refine s_nil ?_
        refine t_norm (hK53 _ _ ?_)
        refine wp_seq_k fun K59 hK59 => ?_
        refine c_region ?_
        refine s_op (o_move (v := v47) rfl ?_)
        refine s_op (o_assign (v := v47) rfl ?_)
        refine s_op (o_assign (v := (.int .i64 0)) rfl ?_)
        refine s_nil ?_
        refine t_norm (hK59 _ _ ?_)
        refine wp_ret ?_
        refine c_ret2 Try.results20  (v := v47) rfl (x := (.int .i64 0)) rfl ?_
        have q60 : (backT v.m id no).1 = ((v11.changes.drop ((fromK v11.places no)).toNat).reverse) := by unfold backT; simp [hS9, h27, h38]
        have q61 : (backT v.m id no).2 = 0 := by unfold backT; simp [hS9, h27, h38]
        exact ⟨_, _, by rw [q61], (by rw [q60]; exact ho55), hH57⟩
end Go.Q
namespace Go.Q
open Go.Proofs
set_option linter.unusedVariables false
set_option maxRecDepth 100000
attribute [local irreducible] wpList OK Code.wp
set_option maxHeartbeats 4000000 in
theorem great17_c {E w : World} {R : List Hp} {v_l : Value} {l : List Rec}  (hH : Has E w [R]) (h_l : Sl R 11 v_l l.length (l.flatMap recC)) :
    Calls Try.prog 15 #[v_l] w fun e w' => ∃ (gb : Bool), e = .returned (.bool gb) ∧ (gb = false → l.length ≤ 60) ∧ Has E w' [R] := by
  have hn_ := h_l.le
  refine c_enter (args := [v_l]) Try.func15 rfl Try.ntmps15 (by simp) ?_
  refine wp_seq_k fun K1 hK1 => ?_
  refine c_region ?_
  refine s_op (o_assign (v := (.bool false)) rfl ?_)
  refine s_nil ?_
  refine t_norm (hK1 _ _ ?_)
  refine wp_seq_k fun K2 hK2 => ?_
  refine wp_seq_k fun K3 hK3 => ?_
  refine c_region ?_
  refine s_op (o_move (v := v_l) rfl ?_)
  refine s_op (o_lenS Try.underlying22 rfl h_l ?_)
  refine s_op (o_gtr (a := ((l.length : Nat) : Int)) (b := 60) rfl rfl ?_)
  refine s_nil ?_
  refine t_norm (hK3 _ _ ?_)
  refine c_cond rfl (fun h4 => ?_) (fun h4 => ?_)
  · -- 60 < ((l.length : Nat) : Int)
    refine wp_seq_k fun K5 hK5 => ?_
    refine c_region ?_
    refine s_op (o_assign (v := (.bool true)) rfl ?_)
    refine s_nil ?_
    refine t_norm (hK5 _ _ ?_)
    refine wp_ret ?_
    refine t_ret (c_ret1 Try.results15  (v := (.bool true)) rfl ?_)
    exact ⟨true, rfl, (fun g => by cases g), hH⟩
  · -- not: 60 < ((l.length : Nat) : Int)
    refine wp_skip ?_
    refine t_norm (hK2 _ _ ?_)
    refine wp_seq_k fun K6 hK6 => ?_
    refine wp_seq_k fun K7 hK7 => ?_
    refine c_region ?_
    refine s_op (o_assign (v := (.int .i64 0)) rfl ?_)
    refine s_nil ?_
    refine t_norm (hK7 _ _ ?_)
    refine wp_block ?_
    let I9 : Nat → (Nat → Value) → World → Prop := fun n__ r__ w__ => ∃ (k : Nat), n__ = l.length - k ∧ Has E w__ [R] ∧ (k ≤ l.length) ∧ r__ 0 = v_l ∧ r__ 3 = (.int .i64 (k : Int)) ∧ r__ 6 = (.bool (decide (60 < ((l.length : Nat) : Int))))
    refine c_loop I9 _ ⟨0, rfl, hH, Nat.zero_le _, rfl, rfl, rfl⟩ ?_
    rintro n_ r12 w10 ⟨k, rfl, hH11, hk, e8_0, e8_3, e8_6⟩
    refine wp_seq_k fun K13 hK13 => ?_
    refine wp_seq_k fun K14 hK14 => ?_
    refine c_region ?_
    refine s_op (o_move (v := (.int .i64 (k : Int))) e8_3 ?_)
    refine s_op (o_move (v := v_l) e8_0 ?_)
    refine s_op (o_lenS Try.underlying22 rfl h_l ?_)
    refine s_op (o_lss (a := (k : Int)) (b := ((l.length : Nat) : Int)) rfl rfl ?_)
    refine s_nil ?_
    refine t_norm (hK14 _ _ ?_)
    refine c_cond rfl (fun h15 => ?_) (fun h15 => ?_)
    · -- (k : Int) < ((l.length : Nat) : Int)
      refine wp_skip ?_
      refine t_norm (hK13 _ _ ?_)
      refine wp_seq_k fun K16 hK16 => ?_
      refine wp_block ?_
      refine wp_seq_k fun K17 hK17 => ?_
      refine c_region ?_
      refine s_op (o_move (v := v_l) e8_0 ?_)
      refine s_op (o_move (v := (.int .i64 (k : Int))) e8_3 ?_)
      obtain ⟨x21, hx22⟩ : ∃ x_, l[((k : Int)).toNat]? = some x_ := get_some (by omega)
      refine s_op (o_indexF recC_len Try.underlying22 ti32 rfl h_l rfl rfl (by omega) hx22 fun b18 o19 hc20 => ?_)
      refine s_op (o_fieldAddr (k := o19 + 5) (fun _ => by kernel_rfl) rfl ?_)
      refine s_op (o_load1 (v := (S x21.key)) Try.underlying9 rfl rfl hH11 (seg_sub 0 rfl) (CellsAt.field (k := 5) (ds := [(S x21.key)]) hc20 rfl) ?_)
      refine s_op (o_slen Try.underlying9 rfl ?_)
      refine s_op (o_gtr (a := (x21.key.length : Int)) (b := 100) rfl rfl ?_)
      refine s_op (o_move (v := (.bool (decide (100 < (x21.key.length : Int))))) rfl ?_)
      by_cases h23 : 100 < (x21.key.length : Int)
      · -- 100 < (x21.key.length : Int)
        refine s_off (b' := true) 20 rfl (congrArg Value.bool (decide_eq_true h23)) rfl ?_
        refine s_off (b' := true) 20 rfl (congrArg Value.bool (decide_eq_true h23)) rfl ?_
        refine s_off (b' := true) 20 rfl (congrArg Value.bool (decide_eq_true h23)) rfl ?_
        refine s_off (b' := true) 20 rfl (congrArg Value.bool (decide_eq_true h23)) rfl ?_
        refine s_off (b' := true) 20 rfl (congrArg Value.bool (decide_eq_true h23)) rfl ?_
        refine s_off (b' := true) 20 rfl (congrArg Value.bool (decide_eq_true h23)) rfl ?_
        refine s_off (b' := true) 20 rfl (congrArg Value.bool (decide_eq_true h23)) rfl ?_
        refine s_off (b' := true) 20 rfl (congrArg Value.bool (decide_eq_true h23)) rfl ?_
        refine s_op (o_pick_t (u := (.bool true)) ((rfl : _ = _).trans (congrArg Value.bool (decide_eq_true h23))) rfl ?_)
        refine s_op (o_move (v := (.bool true)) rfl ?_)
        refine s_off (b' := true) 30 rfl rfl rfl ?_
        refine s_off (b' := true) 30 rfl rfl rfl ?_
        refine s_off (b' := true) 30 rfl rfl rfl ?_
        refine s_off (b' := true) 30 rfl rfl rfl ?_
        refine s_off (b' := true) 30 rfl rfl rfl ?_
        refine s_off (b' := true) 30 rfl rfl rfl ?_
        refine s_off (b' := true) 30 rfl rfl rfl ?_
        refine s_off (b' := true) 30 rfl rfl rfl ?_
        refine s_op (o_pick_t (u := (.bool true)) rfl rfl ?_)
        refine s_nil ?_
        refine t_norm (hK17 _ _ ?_)
        refine c_true rfl rfl ?_
        refine wp_seq_k fun K24 hK24 => ?_
        refine c_region ?_
        refine s_op (o_assign (v := (.bool true)) rfl ?_)
        refine s_nil ?_
        refine t_norm (hK24 _ _ ?_)
        refine wp_ret ?_
        refine b_ret (t_ret (t_ret (b_ret (t_ret (c_ret1 Try.results15  (v := (.bool true)) rfl ?_)))))
        exact ⟨true, rfl, (fun g => by cases g), hH11⟩
      · -- not: 100 < (x21.key.length : Int)
        refine s_on 20 rfl (congrArg Value.bool (decide_eq_false h23)) (o_move (v := v_l) e8_0 ?_)
        refine s_on 20 rfl (congrArg Value.bool (decide_eq_false h23)) (o_move (v := (.int .i64 (k : Int))) e8_3 ?_)
        refine s_on 20 rfl (congrArg Value.bool (decide_eq_false h23)) (o_indexF recC_len Try.underlying22 ti32 rfl h_l rfl rfl (by omega) hx22 fun b25 o26 hc27 => ?_)
        refine s_on 20 rfl (congrArg Value.bool (decide_eq_false h23)) (o_fieldAddr (k := o26 + 6) (fun _ => by kernel_rfl) rfl ?_)
        refine s_on 20 rfl (congrArg Value.bool (decide_eq_false h23)) (o_fieldAddr (k := o26 + 6 + 1) (fun _ => by kernel_rfl) rfl ?_)
        refine s_on 20 rfl (congrArg Value.bool (decide_eq_false h23)) (o_load1 (v := (S x21.bv)) Try.underlying9 rfl rfl hH11 (seg_sub 0 rfl) (CellsAt.field (k := 1) (ds := [(S x21.bv)]) (CellsAt.field (k := 6) (ds := [(.bool x21.bh), (S x21.bv)]) hc27 rfl) rfl) ?_)
        refine s_on 20 rfl (congrArg Value.bool (decide_eq_false h23)) (o_slen Try.underlying9 rfl ?_)
        refine s_on 20 rfl (congrArg Value.bool (decide_eq_false h23)) (o_gtr (a := (x21.bv.length : Int)) (b := 100) rfl rfl ?_)
        refine s_op (o_pick_f (u := (.bool (decide (100 < (x21.bv.length : Int))))) ((rfl : _ = _).trans (congrArg Value.bool (decide_eq_false h23))) rfl ?_)
        refine s_op (o_move (v := (.bool (decide (100 < (x21.bv.length : Int))))) rfl ?_)
        by_cases h28 : 100 < (x21.bv.length : Int)
        · -- 100 < (x21.bv.length : Int)
          refine s_off (b' := true) 30 rfl (congrArg Value.bool (decide_eq_true h28)) rfl ?_
          refine s_off (b' := true) 30 rfl (congrArg Value.bool (decide_eq_true h28)) rfl ?_
          refine s_off (b' := true) 30 rfl (congrArg Value.bool (decide_eq_true h28)) rfl ?_
          refine s_off (b' := true) 30 rfl (congrArg Value.bool (decide_eq_true h28)) rfl ?_
          refine s_off (b' := true) 30 rfl (congrArg Value.bool (decide_eq_true h28)) rfl ?_
          refine s_off (b' := true) 30 rfl (congrArg Value.bool (decide_eq_true h28)) rfl ?_
          refine s_off (b' := true) 30 rfl (congrArg Value.bool (decide_eq_true h28)) rfl ?_
          refine s_off (b' := true) 30 rfl (congrArg Value.bool (decide_eq_true h28)) rfl ?_
          refine s_op (o_pick_t (u := (.bool true)) ((rfl : _ = _).trans (congrArg Value.bool (decide_eq_true h28))) rfl ?_)
          refine s_nil ?_
          refine t_norm (hK17 _ _ ?_)
          refine c_true rfl rfl ?_
          refine wp_seq_k fun K29 hK29 => ?_
          refine c_region ?_
          refine s_op (o_assign (v := (.bool true)) rfl ?_)
          refine s_nil ?_
          refine t_norm (hK29 _ _ ?_)
          refine wp_ret ?_
          refine b_ret (t_ret (t_ret (b_ret (t_ret (c_ret1 Try.results15  (v := (.bool true)) rfl ?_)))))
          exact ⟨true, rfl, (fun g => by cases g), hH11⟩
        · -- not: 100 < (x21.bv.length : Int)
          refine s_on 30 rfl (congrArg Value.bool (decide_eq_false h28)) (o_move (v := v_l) e8_0 ?_)
          refine s_on 30 rfl (congrArg Value.bool (decide_eq_false h28)) (o_move (v := (.int .i64 (k : Int))) e8_3 ?_)
          refine s_on 30 rfl (congrArg Value.bool (decide_eq_false h28)) (o_indexF recC_len Try.underlying22 ti32 rfl h_l rfl rfl (by omega) hx22 fun b30 o31 hc32 => ?_)
          refine s_on 30 rfl (congrArg Value.bool (decide_eq_false h28)) (o_fieldAddr (k := o31 + 8) (fun _ => by kernel_rfl) rfl ?_)
          refine s_on 30 rfl (congrArg Value.bool (decide_eq_false h28)) (o_fieldAddr (k := o31 + 8 + 1) (fun _ => by kernel_rfl) rfl ?_)
          refine s_on 30 rfl (congrArg Value.bool (decide_eq_false h28)) (o_load1 (v := (S x21.av)) Try.underlying9 rfl rfl hH11 (seg_sub 0 rfl) (CellsAt.field (k := 1) (ds := [(S x21.av)]) (CellsAt.field (k := 8) (ds := [(.bool x21.ah), (S x21.av)]) hc32 rfl) rfl) ?_)
          refine s_on 30 rfl (congrArg Value.bool (decide_eq_false h28)) (o_slen Try.underlying9 rfl ?_)
          refine s_on 30 rfl (congrArg Value.bool (decide_eq_false h28)) (o_gtr (a := (x21.av.length : Int)) (b := 100) rfl rfl ?_)
          refine s_op (o_pick_f (u := (.bool (decide (100 < (x21.av.length : Int))))) ((rfl : _ = _).trans (congrArg Value.bool (decide_eq_false h28))) rfl ?_)
          refine s_nil ?_
          refine t_norm (hK17 _ _ ?_)
          refine c_cond rfl (fun h33 => ?_) (fun h33 => ?_)
          · -- 100 < (x21.av.length : Int)
            refine wp_seq_k fun K34 hK34 => ?_
            refine c_region ?_
            refine s_op (o_assign (v := (.bool true)) rfl ?_)
            refine s_nil ?_
            refine t_norm (hK34 _ _ ?_)
            refine wp_ret ?_
            refine b_ret (t_ret (t_ret (b_ret (t_ret (c_ret1 Try.results15  (v := (.bool true)) rfl ?_)))))
            exact ⟨true, rfl, (fun g => by cases g), hH11⟩
          · -- not: 100 < (x21.av.length : Int)
            refine wp_skip ?_
            refine b_norm ?_
            refine t_norm (hK16 _ _ ?_)
            refine c_region ?_
            refine s_op (o_move (v := (.int .i64 (k : Int))) e8_3 ?_)
            refine s_op (o_add (a := (k : Int)) (b := 1) rfl rfl (w64 (by omega) (by omega)) ?_)
            refine s_op (o_assign (v := (.int .i64 ((k : Int) + 1))) rfl ?_)
            refine s_nil ?_
            refine t_norm ⟨l.length - (k + 1), _, rfl, ?_, ?_⟩
            · omega
            · exact ⟨(k + 1), rfl, hH11, (by omega), e8_0, rfl, e8_6⟩
    · -- not: (k : Int) < ((l.length : Nat) : Int)
      refine wp_exit ?_
      refine t_exit (t_exit (x_in (?_)))
      refine t_norm (hK6 _ _ ?_)
      refine wp_seq_k fun K35 hK35 => ?_
      refine c_region ?_
      refine s_op (o_assign (v := (.bool false)) rfl ?_)
      refine s_nil ?_
      refine t_norm (hK35 _ _ ?_)
      refine wp_ret ?_
      refine c_ret1 Try.results15  (v := (.bool false)) rfl ?_
      exact ⟨false, rfl, (fun _ => by omega), hH11⟩
set_option maxHeartbeats 4000000 in
theorem awake17_c {E w : World} {R : List Hp}   (hH : Has E w [R]) :
    Calls Try.prog 16 #[] w fun e w' => e = .returned (.bool true) ∧ Has E w' [R] := by
  refine c_enter (args := []) Try.func16 rfl Try.ntmps16 (by simp) ?_
  refine wp_seq_k fun K1 hK1 => ?_
  refine c_region ?_
  refine s_op (o_assign (v := (.bool false)) rfl ?_)
  refine s_nil ?_
  refine t_norm (hK1 _ _ ?_)
  refine wp_seq_k fun K2 hK2 => ?_
  refine c_region ?_
  refine s_op (o_callf (vs := #[]) ca17 rfl (args0) (tnew_c hH.all ) ?_)
  rintro _ w8 ⟨b3, sg4, rfl, hd5, hX6⟩
  refine ⟨_, rfl, ?_⟩
  have hH7 : Has E w8 [sg4, R] := hX6.of_all1
  have hs9 := szK.nil
  have hk10 := TOk.nil
  refine s_op (o_assign (v := (.pointer (some ⟨b3, 0, none⟩))) rfl ?_)
  refine s_nil ?_
  refine t_norm (hK2 _ _ ?_)
  refine wp_seq_k fun K11 hK11 => ?_
  refine c_region ?_
  refine s_op (o_sight (v := (.agg #[(.bool true), (S [120])])) (fun _ => by kernel_rfl) ?_)
  refine s_op (o_sight (v := (.agg #[(.bool true), (S [121])])) (fun _ => by kernel_rfl) ?_)
  refine s_op (o_alloc (cs := #[(.bool false), (S ([] : List UInt8))]) ti30 rfl hH7 fun b12 w13 hH14 => ?_)
  refine s_op (o_alloc (cs := #[(.bool false), (S ([] : List UInt8))]) ti30 rfl hH14 fun b15 w16 hH17 => ?_)
  refine s_eff (o_storeN (vs := [(.bool true), (S [120])]) (c' := #[(.bool true), (S [120])]) ti30 rfl rfl rfl rfl (by intro u hu; simp only [List.mem_cons, List.not_mem_nil, or_false] at hu; rcases hu with rfl | rfl <;> first | rfl) (by simp) (by kernel_rfl) (hH17.front 1 rfl) fun w18 hH19 => ?_)
  refine s_eff (o_storeN (vs := [(.bool true), (S [121])]) (c' := #[(.bool true), (S [121])]) ti30 rfl rfl rfl rfl (by intro u hu; simp only [List.mem_cons, List.not_mem_nil, or_false] at hu; rcases hu with rfl | rfl <;> first | rfl) (by simp) (by kernel_rfl) (hH19.front 1 rfl) fun w20 hH21 => ?_)
  refine s_nil ?_
  refine t_norm (hK11 _ _ ?_)
  refine wp_seq_k fun K22 hK22 => ?_
  refine c_region ?_
  refine s_op (o_move (v := (.pointer (some ⟨b3, 0, none⟩))) rfl ?_)
  refine s_op (o_sight (v := (.agg #[(.int .i64 1), (.int .i64 1), (.int .i64 5), (.int .i64 0), (.int .i64 0), (S ([] : List UInt8)), (.bool false), (S ([] : List UInt8)), (.bool false), (S ([] : List UInt8)), (.int .i64 0)])) (fun _ => by kernel_rfl) ?_)
  refine s_op (o_loadN (cs := [(.bool true), (S [120])]) Try.underlying30 rfl ti30 rfl hH21 (seg_sub 1 rfl) (CellsAt.one rfl) ?_)
  refine s_op (o_sight (v := (.agg #[(.int .i64 2), (.int .i64 2), (.int .i64 5), (.int .i64 1), (.int .i64 0), (S [97]), (.bool false), (S ([] : List UInt8)), (.bool true), (S [120]), (.int .i64 0)])) (fun _ => by kernel_rfl) ?_)
  refine s_op (o_sight (v := (.agg #[(.int .i64 4), (.int .i64 4), (.int .i64 5), (.int .i64 2), (.int .i64 0), (S ([] : List UInt8)), (.bool false), (S ([] : List UInt8)), (.bool false), (S ([] : List UInt8)), (.int .i64 0)])) (fun _ => by kernel_rfl) ?_)
  refine s_op (o_loadN (cs := [(.bool true), (S [120])]) Try.underlying30 rfl ti30 rfl hH21 (seg_sub 1 rfl) (CellsAt.one rfl) ?_)
  refine s_op (o_loadN (cs := [(.bool true), (S [121])]) Try.underlying30 rfl ti30 rfl hH21 (seg_sub 0 rfl) (CellsAt.one rfl) ?_)
  refine s_op (o_sight (v := (.agg #[(.int .i64 2), (.int .i64 5), (.int .i64 5), (.int .i64 4), (.int .i64 0), (S [97]), (.bool true), (S [120]), (.bool true), (S [121]), (.int .i64 0)])) (fun _ => by kernel_rfl) ?_)
  refine s_op (o_buildSlice (ps := #[(0, (.agg #[(.int .i64 1), (.int .i64 1), (.int .i64 5), (.int .i64 0), (.int .i64 0), (S ([] : List UInt8)), (.bool false), (S ([] : List UInt8)), (.bool false), (S ([] : List UInt8)), (.int .i64 0)])), (1, (.agg #[(.int .i64 2), (.int .i64 2), (.int .i64 5), (.int .i64 1), (.int .i64 0), (S [97]), (.bool false), (S ([] : List UInt8)), (.bool true), (S [120]), (.int .i64 0)])), (2, (.agg #[(.int .i64 4), (.int .i64 4), (.int .i64 5), (.int .i64 2), (.int .i64 0), (S ([] : List UInt8)), (.bool false), (S ([] : List UInt8)), (.bool false), (S ([] : List UInt8)), (.int .i64 0)])), (3, (.agg #[(.int .i64 2), (.int .i64 5), (.int .i64 5), (.int .i64 4), (.int .i64 0), (S [97]), (.bool true), (S [120]), (.bool true), (S [121]), (.int .i64 0)]))]) (cells := #[(.int .i64 1), (.int .i64 1), (.int .i64 5), (.int .i64 0), (.int .i64 0), (S ([] : List UInt8)), (.bool false), (S ([] : List UInt8)), (.bool false), (S ([] : List UInt8)), (.int .i64 0), (.int .i64 2), (.int .i64 2), (.int .i64 5), (.int .i64 1), (.int .i64 0), (S [97]), (.bool false), (S ([] : List UInt8)), (.bool true), (S [120]), (.int .i64 0), (.int .i64 4), (.int .i64 4), (.int .i64 5), (.int .i64 2), (.int .i64 0), (S ([] : List UInt8)), (.bool false), (S ([] : List UInt8)), (.bool false), (S ([] : List UInt8)), (.int .i64 0), (.int .i64 2), (.int .i64 5), (.int .i64 5), (.int .i64 4), (.int .i64 0), (S [97]), (.bool true), (S [120]), (.bool true), (S [121]), (.int .i64 0)]) Try.underlying22 ti32 (by decide) (parts4 rfl rfl rfl rfl) (by kernel_rfl) hH21 fun b23 w24 hH25 => ?_)
  refine s_op (o_callf (vs := #[(.pointer (some ⟨b3, 0, none⟩)), (.int .i64 0), (.slice (some ⟨b23, 0, none⟩) 4 4)]) ca18 rfl (args3 rfl rfl rfl) (tnote_c (v := (⟨[]⟩ : TxnS)) (home := 0) (l := [(Rec.mk 1 1 5 0 0 ([] : List UInt8) false ([] : List UInt8) false ([] : List UInt8) 0), (Rec.mk 2 2 5 1 0 [97] false ([] : List UInt8) true [120] 0), (Rec.mk 4 4 5 2 0 ([] : List UInt8) false ([] : List UInt8) false ([] : List UInt8) 0), (Rec.mk 2 5 5 4 0 [97] true [120] true [121] 0)]) (hH25.front 3 rfl).all1 hd5 ((sl_litF (f := recC) (l := [(Rec.mk 1 1 5 0 0 ([] : List UInt8) false ([] : List UInt8) false ([] : List UInt8) 0), (Rec.mk 2 2 5 1 0 [97] false ([] : List UInt8) true [120] 0), (Rec.mk 4 4 5 2 0 ([] : List UInt8) false ([] : List UInt8) false ([] : List UInt8) 0), (Rec.mk 2 5 5 4 0 [97] true [120] true [121] 0)]) recC_len rfl rfl (by simp)).mono (seg_sub 0 rfl)) hs9 (by first | omega | (simp only [List.length_cons, List.length_nil]; omega) | (simp; omega))) ?_)
  rintro _ w30 ⟨sg26, rfl, hd27, hX28⟩
  refine ⟨_, rfl, ?_⟩
  have hH29 : Has E w30 [sg26, [Hp.one b23 (.cells #[(.int .i64 1), (.int .i64 1), (.int .i64 5), (.int .i64 0), (.int .i64 0), (S ([] : List UInt8)), (.bool false), (S ([] : List UInt8)), (.bool false), (S ([] : List UInt8)), (.int .i64 0), (.int .i64 2), (.int .i64 2), (.int .i64 5), (.int .i64 1), (.int .i64 0), (S [97]), (.bool false), (S ([] : List UInt8)), (.bool true), (S [120]), (.int .i64 0), (.int .i64 4), (.int .i64 4), (.int .i64 5), (.int .i64 2), (.int .i64 0), (S ([] : List UInt8)), (.bool false), (S ([] : List UInt8)), (.bool false), (S ([] : List UInt8)), (.int .i64 0), (.int .i64 2), (.int .i64 5), (.int .i64 5), (.int .i64 4), (.int .i64 0), (S [97]), (.bool true), (S [120]), (.bool true), (S [121]), (.int .i64 0)] 32 (0, 0))], [Hp.one b15 (.cells #[(.bool true), (S [121])] 30 (0, 0))], [Hp.one b12 (.cells #[(.bool true), (S [120])] 30 (0, 0))], R] := hX28.of_all1
  have hd27 : TtAt b3 sg26 (⟨(noteL 0 [] [(Rec.mk 1 1 5 0 0 ([] : List UInt8) false ([] : List UInt8) false ([] : List UInt8) 0), (Rec.mk 2 2 5 1 0 [97] false ([] : List UInt8) true [120] 0), (Rec.mk 4 4 5 2 0 ([] : List UInt8) false ([] : List UInt8) false ([] : List UInt8) 0), (Rec.mk 2 5 5 4 0 [97] true [120] true [121] 0)]).1⟩ : TxnS) := hd27
  have hs31 := hs9.noteL (home := 0) (l := [(Rec.mk 1 1 5 0 0 ([] : List UInt8) false ([] : List UInt8) false ([] : List UInt8) 0), (Rec.mk 2 2 5 1 0 [97] false ([] : List UInt8) true [120] 0), (Rec.mk 4 4 5 2 0 ([] : List UInt8) false ([] : List UInt8) false ([] : List UInt8) 0), (Rec.mk 2 5 5 4 0 [97] true [120] true [121] 0)])
  have hk32 := hk10.noteL (home := 0) (l := [(Rec.mk 1 1 5 0 0 ([] : List UInt8) false ([] : List UInt8) false ([] : List UInt8) 0), (Rec.mk 2 2 5 1 0 [97] false ([] : List UInt8) true [120] 0), (Rec.mk 4 4 5 2 0 ([] : List UInt8) false ([] : List UInt8) false ([] : List UInt8) 0), (Rec.mk 2 5 5 4 0 [97] true [120] true [121] 0)])
  have hd33 : TtAt b3 sg26 (⟨awT17⟩ : TxnS) := by have h9_ := hd27; exact h9_
  have hs34 : szK awT17 4 := hs31
  have hk35 : TOk awT17 := hk32
  refine s_op (o_assign (v := (.int .i64 ((noteL 0 [] [(Rec.mk 1 1 5 0 0 ([] : List UInt8) false ([] : List UInt8) false ([] : List UInt8) 0), (Rec.mk 2 2 5 1 0 [97] false ([] : List UInt8) true [120] 0), (Rec.mk 4 4 5 2 0 ([] : List UInt8) false ([] : List UInt8) false ([] : List UInt8) 0), (Rec.mk 2 5 5 4 0 [97] true [120] true [121] 0)]).2))) rfl ?_)
  refine s_nil ?_
  refine t_norm (hK22 _ _ ?_)
  refine wp_seq_k fun K36 hK36 => ?_
  refine c_region ?_
  refine s_op (o_move (v := (.pointer (some ⟨b3, 0, none⟩))) rfl ?_)
  refine s_op (o_buildSlice (ps := #[(0, (.int .i64 0))]) (cells := #[(.int .i64 0)]) Try.underlying54 ti3 (by decide) (parts1 rfl) (by kernel_rfl) hH29 fun b37 w38 hH39 => ?_)
  refine s_op (o_callf (vs := #[(.pointer (some ⟨b3, 0, none⟩)), (.int .i64 5), (.slice (some ⟨b37, 0, none⟩) 1 1)]) ca20 rfl (args3 rfl rfl rfl) (tback_c (v := (⟨awT17⟩ : TxnS)) (id := 5) (no := [0]) hH39.all (hd33.rd.mono (seg_sub 1 rfl)) ((sl_lit (f := iV) (l := [0]) rfl rfl (by simp)).mono (seg_sub 0 rfl)) (hs34.mono (by first | omega | (simp only [List.length_cons, List.length_nil]; omega) | (simp; omega))) hk35 (by first | decide | omega | simp)) ?_)
  rintro _ w45 ⟨v40, s41, rfl, ho42, hX43⟩
  refine ⟨_, rfl, ?_⟩
  have hH44 : Has E w45 [s41, [Hp.one b37 (.cells #[(.int .i64 0)] 3 (0, 0))], sg26, [Hp.one b23 (.cells #[(.int .i64 1), (.int .i64 1), (.int .i64 5), (.int .i64 0), (.int .i64 0), (S ([] : List UInt8)), (.bool false), (S ([] : List UInt8)), (.bool false), (S ([] : List UInt8)), (.int .i64 0), (.int .i64 2), (.int .i64 2), (.int .i64 5), (.int .i64 1), (.int .i64 0), (S [97]), (.bool false), (S ([] : List UInt8)), (.bool true), (S [120]), (.int .i64 0), (.int .i64 4), (.int .i64 4), (.int .i64 5), (.int .i64 2), (.int .i64 0), (S ([] : List UInt8)), (.bool false), (S ([] : List UInt8)), (.bool false), (S ([] : List UInt8)), (.int .i64 0), (.int .i64 2), (.int .i64 5), (.int .i64 5), (.int .i64 4), (.int .i64 0), (S [97]), (.bool true), (S [120]), (.bool true), (S [121]), (.int .i64 0)] 32 (0, 0))], [Hp.one b15 (.cells #[(.bool true), (S [121])] 30 (0, 0))], [Hp.one b12 (.cells #[(.bool true), (S [120])] 30 (0, 0))], R] := hX43.of_all1
  have ho42 : Own 32 11 v40 ((backT awT17 5 [0]).1).length (((backT awT17 5 [0]).1).flatMap recC) s41 := ho42
  refine s_op (o_move (v := (.tuple #[v40, (.int .i64 ((backT awT17 5 [0]).2))])) rfl ?_)
  refine s_op (o_extract (v := v40) rfl rfl ?_)
  refine s_op (o_extract (v := (.int .i64 ((backT awT17 5 [0]).2))) rfl rfl ?_)
  refine s_op (o_assign (v := v40) rfl ?_)
  refine s_op (o_assign (v := (.int .i64 ((backT awT17 5 [0]).2))) rfl ?_)
  refine s_nil ?_
  refine t_norm (hK36 _ _ ?_)
  refine wp_seq_k fun K46 hK46 => ?_
  refine c_region ?_
  refine s_op (o_move (v := (.pointer (some ⟨b3, 0, none⟩))) rfl ?_)
  refine s_op (o_callf (vs := #[(.pointer (some ⟨b3, 0, none⟩)), (.int .i64 5), (.slice none 0 0)]) ca20 rfl (args3 rfl rfl rfl) (tback_c (v := (⟨awT17⟩ : TxnS)) (id := 5) (no := ([] : List Int)) hH44.all (hd33.rd.mono (seg_sub 2 rfl)) (sl_nil 1) (hs34.mono (by first | omega | (simp only [List.length_cons, List.length_nil]; omega) | (simp; omega))) hk35 (by first | decide | omega | simp)) ?_)
  rintro _ w52 ⟨v47, s48, rfl, ho49, hX50⟩
  refine ⟨_, rfl, ?_⟩
  have hH51 : Has E w52 [s48, s41, [Hp.one b37 (.cells #[(.int .i64 0)] 3 (0, 0))], sg26, [Hp.one b23 (.cells #[(.int .i64 1), (.int .i64 1), (.int .i64 5), (.int .i64 0), (.int .i64 0), (S ([] : List UInt8)), (.bool false), (S ([] : List UInt8)), (.bool false), (S ([] : List UInt8)), (.int .i64 0), (.int .i64 2), (.int .i64 2), (.int .i64 5), (.int .i64 1), (.int .i64 0), (S [97]), (.bool false), (S ([] : List UInt8)), (.bool true), (S [120]), (.int .i64 0), (.int .i64 4), (.int .i64 4), (.int .i64 5), (.int .i64 2), (.int .i64 0), (S ([] : List UInt8)), (.bool false), (S ([] : List UInt8)), (.bool false), (S ([] : List UInt8)), (.int .i64 0), (.int .i64 2), (.int .i64 5), (.int .i64 5), (.int .i64 4), (.int .i64 0), (S [97]), (.bool true), (S [120]), (.bool true), (S [121]), (.int .i64 0)] 32 (0, 0))], [Hp.one b15 (.cells #[(.bool true), (S [121])] 30 (0, 0))], [Hp.one b12 (.cells #[(.bool true), (S [120])] 30 (0, 0))], R] := hX50.of_all1
  have ho49 : Own 32 11 v47 ((backT awT17 5 ([] : List Int)).1).length (((backT awT17 5 ([] : List Int)).1).flatMap recC) s48 := ho49
  refine s_op (o_move (v := (.tuple #[v47, (.int .i64 ((backT awT17 5 ([] : List Int)).2))])) rfl ?_)
  refine s_op (o_extract (v := v47) rfl rfl ?_)
  refine s_op (o_extract (v := (.int .i64 ((backT awT17 5 ([] : List Int)).2))) rfl rfl ?_)
  refine s_op (o_assign (v := v47) rfl ?_)
  refine s_op (o_assign (v := (.int .i64 ((backT awT17 5 ([] : List Int)).2))) rfl ?_)
  refine s_nil ?_
  refine t_norm (hK46 _ _ ?_)
  refine wp_seq_k fun K53 hK53 => ?_
  refine c_region ?_
  refine s_op (o_move (v := (.int .i64 ((noteL 0 [] [(Rec.mk 1 1 5 0 0 ([] : List UInt8) false ([] : List UInt8) false ([] : List UInt8) 0), (Rec.mk 2 2 5 1 0 [97] false ([] : List UInt8) true [120] 0), (Rec.mk 4 4 5 2 0 ([] : List UInt8) false ([] : List UInt8) false ([] : List UInt8) 0), (Rec.mk 2 5 5 4 0 [97] true [120] true [121] 0)]).2))) rfl ?_)
  refine s_op (o_eql (a := (noteL 0 [] [(Rec.mk 1 1 5 0 0 ([] : List UInt8) false ([] : List UInt8) false ([] : List UInt8) 0), (Rec.mk 2 2 5 1 0 [97] false ([] : List UInt8) true [120] 0), (Rec.mk 4 4 5 2 0 ([] : List UInt8) false ([] : List UInt8) false ([] : List UInt8) 0), (Rec.mk 2 5 5 4 0 [97] true [120] true [121] 0)]).2) (b := 0) rfl rfl ?_)
  refine s_op (o_move (v := (.bool (decide ((noteL 0 [] [(Rec.mk 1 1 5 0 0 ([] : List UInt8) false ([] : List UInt8) false ([] : List UInt8) 0), (Rec.mk 2 2 5 1 0 [97] false ([] : List UInt8) true [120] 0), (Rec.mk 4 4 5 2 0 ([] : List UInt8) false ([] : List UInt8) false ([] : List UInt8) 0), (Rec.mk 2 5 5 4 0 [97] true [120] true [121] 0)]).2 = 0)))) rfl ?_)
  by_cases h54 : (noteL 0 [] [(Rec.mk 1 1 5 0 0 ([] : List UInt8) false ([] : List UInt8) false ([] : List UInt8) 0), (Rec.mk 2 2 5 1 0 [97] false ([] : List UInt8) true [120] 0), (Rec.mk 4 4 5 2 0 ([] : List UInt8) false ([] : List UInt8) false ([] : List UInt8) 0), (Rec.mk 2 5 5 4 0 [97] true [120] true [121] 0)]).2 = 0
  · -- (noteL 0 [] [(Rec.mk 1 1 5 0 0 ([] : List UInt8) false ([] : List UInt8) false ([] : List UInt8) 0), (Rec.mk 2 2 5 1 0 [97] false ([] : List UInt8) true [120] 0), (Rec.mk 4 4 5 2 0 ([] : List UInt8) false ([] : List UInt8) false ([] : List UInt8) 0), (Rec.mk 2 5 5 4 0 [97] true [120] true [121] 0)]).2 = 0
    refine s_on 35 rfl (congrArg Value.bool (decide_eq_true h54)) (o_move (v := (.int .i64 ((backT awT17 5 [0]).2))) rfl ?_)
    refine s_on 35 rfl (congrArg Value.bool (decide_eq_true h54)) (o_eql (a := (backT awT17 5 [0]).2) (b := 0) rfl rfl ?_)
    refine s_op (o_pick_t (u := (.bool (decide ((backT awT17 5 [0]).2 = 0)))) ((rfl : _ = _).trans (congrArg Value.bool (decide_eq_true h54))) rfl ?_)
    refine s_op (o_move (v := (.bool (decide ((backT awT17 5 [0]).2 = 0)))) rfl ?_)
    by_cases h55 : (backT awT17 5 [0]).2 = 0
    · -- (backT awT17 5 [0]).2 = 0
      refine s_on 39 rfl (congrArg Value.bool (decide_eq_true h55)) (o_move (v := v40) rfl ?_)
      refine s_on 39 rfl (congrArg Value.bool (decide_eq_true h55)) (o_lenS Try.underlying22 rfl ho42.sl ?_)
      refine s_on 39 rfl (congrArg Value.bool (decide_eq_true h55)) (o_eql (a := ((((backT awT17 5 [0]).1).length : Nat) : Int)) (b := 1) rfl rfl ?_)
      refine s_op (o_pick_t (u := (.bool (decide (((((backT awT17 5 [0]).1).length : Nat) : Int) = 1)))) ((rfl : _ = _).trans (congrArg Value.bool (decide_eq_true h55))) rfl ?_)
      refine s_op (o_move (v := (.bool (decide (((((backT awT17 5 [0]).1).length : Nat) : Int) = 1)))) rfl ?_)
      by_cases h56 : ((((backT awT17 5 [0]).1).length : Nat) : Int) = 1
      · -- ((((backT awT17 5 [0]).1).length : Nat) : Int) = 1
        refine s_on 44 rfl (congrArg Value.bool (decide_eq_true h56)) (o_move (v := v40) rfl ?_)
        obtain ⟨x60, hx61⟩ : ∃ x_, ((backT awT17 5 [0]).1)[((0 : Int)).toNat]? = some x_ := get_some (by first | (have h_ := aw17_a; omega) | (have h_ := aw17_b; omega))
        refine s_on 44 rfl (congrArg Value.bool (decide_eq_true h56)) (o_indexF recC_len Try.underlying22 ti32 rfl ho42.sl rfl rfl (by omega) hx61 fun b57 o58 hc59 => ?_)
        refine s_on 44 rfl (congrArg Value.bool (decide_eq_true h56)) (o_fieldAddr (k := o58 + 1) (fun _ => by kernel_rfl) rfl ?_)
        refine s_on 44 rfl (congrArg Value.bool (decide_eq_true h56)) (o_load1 (v := (.int .i64 x60.gsn)) Try.underlying3 rfl rfl hH51 (seg_sub 1 rfl) (CellsAt.field (k := 1) (ds := [(.int .i64 x60.gsn)]) hc59 rfl) ?_)
        refine s_on 44 rfl (congrArg Value.bool (decide_eq_true h56)) (o_eql (a := x60.gsn) (b := 5) rfl rfl ?_)
        refine s_op (o_pick_t (u := (.bool (decide (x60.gsn = 5)))) ((rfl : _ = _).trans (congrArg Value.bool (decide_eq_true h56))) rfl ?_)
        refine s_op (o_move (v := (.bool (decide (x60.gsn = 5)))) rfl ?_)
        by_cases h62 : x60.gsn = 5
        · -- x60.gsn = 5
          refine s_on 51 rfl (congrArg Value.bool (decide_eq_true h62)) (o_move (v := (.int .i64 ((backT awT17 5 ([] : List Int)).2))) rfl ?_)
          refine s_on 51 rfl (congrArg Value.bool (decide_eq_true h62)) (o_eql (a := (backT awT17 5 ([] : List Int)).2) (b := 0) rfl rfl ?_)
          refine s_op (o_pick_t (u := (.bool (decide ((backT awT17 5 ([] : List Int)).2 = 0)))) ((rfl : _ = _).trans (congrArg Value.bool (decide_eq_true h62))) rfl ?_)
          refine s_op (o_move (v := (.bool (decide ((backT awT17 5 ([] : List Int)).2 = 0)))) rfl ?_)
          by_cases h63 : (backT awT17 5 ([] : List Int)).2 = 0
          · -- (backT awT17 5 ([] : List Int)).2 = 0
            refine s_on 55 rfl (congrArg Value.bool (decide_eq_true h63)) (o_move (v := v47) rfl ?_)
            refine s_on 55 rfl (congrArg Value.bool (decide_eq_true h63)) (o_lenS Try.underlying22 rfl ho49.sl ?_)
            refine s_on 55 rfl (congrArg Value.bool (decide_eq_true h63)) (o_eql (a := ((((backT awT17 5 ([] : List Int)).1).length : Nat) : Int)) (b := 2) rfl rfl ?_)
            refine s_op (o_pick_t (u := (.bool (decide (((((backT awT17 5 ([] : List Int)).1).length : Nat) : Int) = 2)))) ((rfl : _ = _).trans (congrArg Value.bool (decide_eq_true h63))) rfl ?_)
            refine s_op (o_move (v := (.bool (decide (((((backT awT17 5 ([] : List Int)).1).length : Nat) : Int) = 2)))) rfl ?_)
            by_cases h64 : ((((backT awT17 5 ([] : List Int)).1).length : Nat) : Int) = 2
            · -- ((((backT awT17 5 ([] : List Int)).1).length : Nat) : Int) = 2
              refine s_on 60 rfl (congrArg Value.bool (decide_eq_true h64)) (o_move (v := v47) rfl ?_)
              obtain ⟨x68, hx69⟩ : ∃ x_, ((backT awT17 5 ([] : List Int)).1)[((1 : Int)).toNat]? = some x_ := get_some (by first | (have h_ := aw17_a; omega) | (have h_ := aw17_b; omega))
              refine s_on 60 rfl (congrArg Value.bool (decide_eq_true h64)) (o_indexF recC_len Try.underlying22 ti32 rfl ho49.sl rfl rfl (by omega) hx69 fun b65 o66 hc67 => ?_)
              refine s_on 60 rfl (congrArg Value.bool (decide_eq_true h64)) (o_fieldAddr (k := o66 + 1) (fun _ => by kernel_rfl) rfl ?_)
              refine s_on 60 rfl (congrArg Value.bool (decide_eq_true h64)) (o_load1 (v := (.int .i64 x68.gsn)) Try.underlying3 rfl rfl hH51 (seg_sub 0 rfl) (CellsAt.field (k := 1) (ds := [(.int .i64 x68.gsn)]) hc67 rfl) ?_)
              refine s_on 60 rfl (congrArg Value.bool (decide_eq_true h64)) (o_eql (a := x68.gsn) (b := 2) rfl rfl ?_)
              refine s_op (o_pick_t (u := (.bool (decide (x68.gsn = 2)))) ((rfl : _ = _).trans (congrArg Value.bool (decide_eq_true h64))) rfl ?_)
              refine s_op (o_assign (v := (.bool (decide (x68.gsn = 2)))) rfl ?_)
              refine s_nil ?_
              refine t_norm (hK53 _ _ ?_)
              refine wp_ret ?_
              refine c_ret1 Try.results16  (v := (.bool (decide (x68.gsn = 2)))) rfl ?_
              have hH70 : Has E w52 [R] := (hH51.front 7 rfl).first 1 rfl
              exact ⟨by first | rfl | (simp; done) | (exact congrArg _ (congrArg _ (decide_eq_true (aw17_b1 hx69)))), hH70⟩
            · -- not: ((((backT awT17 5 ([] : List Int)).1).length : Nat) : Int) = 2
              exact absurd (by first | exact aw17_e | exact aw17_f | exact aw17_g | exact_mod_cast aw17_a | exact_mod_cast aw17_b | exact aw17_a0 hx61 | exact aw17_b1 hx61) h64
          · -- not: (backT awT17 5 ([] : List Int)).2 = 0
            exact absurd (by first | exact aw17_e | exact aw17_f | exact aw17_g | exact_mod_cast aw17_a | exact_mod_cast aw17_b | exact aw17_a0 hx61 | exact aw17_b1 hx61) h63
        · -- not: x60.gsn = 5
          exact absurd (by first | exact aw17_e | exact aw17_f | exact aw17_g | exact_mod_cast aw17_a | exact_mod_cast aw17_b | exact aw17_a0 hx61 | exact aw17_b1 hx61) h62
      · -- not: ((((backT awT17 5 [0]).1).length : Nat) : Int) = 1
        exact absurd (by first | exact aw17_e | exact aw17_f | exact aw17_g | exact_mod_cast aw17_a | exact_mod_cast aw17_b) h56
    · -- not: (backT awT17 5 [0]).2 = 0
      exact absurd (by first | exact aw17_e | exact aw17_f | exact aw17_g | exact_mod_cast aw17_a | exact_mod_cast aw17_b) h55
  · -- not: (noteL 0 [] [(Rec.mk 1 1 5 0 0 ([] : List UInt8) false ([] : List UInt8) false ([] : List UInt8) 0), (Rec.mk 2 2 5 1 0 [97] false ([] : List UInt8) true [120] 0), (Rec.mk 4 4 5 2 0 ([] : List UInt8) false ([] : List UInt8) false ([] : List UInt8) 0), (Rec.mk 2 5 5 4 0 [97] true [120] true [121] 0)]).2 = 0
    exact absurd (by first | exact aw17_e | exact aw17_f | exact aw17_g | exact_mod_cast aw17_a | exact_mod_cast aw17_b) h54
end Go.Q
namespace Go.Q
open Go.Proofs
set_option linter.unusedVariables false
set_option maxRecDepth 100000
attribute [local irreducible] wpList OK Code.wp
set_option maxHeartbeats 4000000 in
theorem indexk_nil {E w : World} {R : List Hp}  {fv : Value}  (hH : Has E w [R]) :
    Calls Try.prog 147 #[(.slice none 0 0), fv] w fun e w' => e = .returned (.int .i64 (-1)) ∧ Has E w' [R] := by
  refine c_enter (args := [(.slice none 0 0), fv]) Try.func147 rfl Try.ntmps147 (by simp) ?_
  refine wp_seq_k fun K1 hK1 => ?_
  refine c_region ?_
  refine s_op (o_assign (v := (.int .i64 0)) rfl ?_)
  refine s_nil ?_
  refine t_norm (hK1 _ _ ?_)
  refine wp_seq_k fun K2 hK2 => ?_
  refine wp_seq_k fun K3 hK3 => ?_
  refine c_region ?_
  refine s_op (o_move (v := (.slice none 0 0)) rfl ?_)
  refine s_op (o_lenS Try.underlying190 rfl (sl_nil (L := []) 1) ?_)
  refine s_op (o_move (v := (.int .i64 0)) rfl ?_)
  refine s_nil ?_
  refine t_norm (hK3 _ _ ?_)
  refine wp_block ?_
  let I5 : Nat → (Nat → Value) → World → Prop := fun n__ r__ w__ => ∃ (k : Nat), n__ = 0 - k ∧ Has E w__ [R] ∧ (k ≤ 0) ∧ r__ 0 = (.slice none 0 0) ∧ r__ 1 = fv ∧ r__ 7 = (.int .i64 ((0 : Nat) : Int)) ∧ r__ 8 = (.int .i64 (k : Int))
  refine c_loop I5 _ ⟨0, rfl, hH, Nat.le_refl _, rfl, rfl, rfl, rfl⟩ ?_
  rintro n_ r8 w6 ⟨k, rfl, hH7, hk, e4_0, e4_1, e4_7, e4_8⟩
  refine wp_seq_k fun K9 hK9 => ?_
  refine c_region ?_
  refine s_op (o_lss (a := (k : Int)) (b := ((0 : Nat) : Int)) e4_8 e4_7 ?_)
  refine s_nil ?_
  refine t_norm (hK9 _ _ ?_)
  refine wp_seq_k fun K10 hK10 => ?_
  refine c_cond rfl (fun h11 => ?_) (fun h11 => ?_)
  · -- (k : Int) < ((0 : Nat) : Int)
    exfalso; first | omega | (simp at h11; done)
  · -- not: (k : Int) < ((0 : Nat) : Int)
    refine wp_exit ?_
    refine t_exit (t_exit (x_in (?_)))
    refine t_norm (hK2 _ _ ?_)
    refine wp_seq_k fun K12 hK12 => ?_
    refine c_region ?_
    refine s_op (o_assign (v := (.int .i64 (-1))) rfl ?_)
    refine s_nil ?_
    refine t_norm (hK12 _ _ ?_)
    refine wp_ret ?_
    refine c_ret1 Try.results147  (v := (.int .i64 (-1))) rfl ?_
    exact ⟨rfl, hH7⟩
set_option maxHeartbeats 4000000 in
theorem delk_nil {E w : World} {R : List Hp}  {fv : Value}  (hH : Has E w [R]) :
    Calls Try.prog 110 #[(.slice none 0 0), fv] w fun e w' => e = .returned (.slice none 0 0) ∧ Has E w' [R] := by
  refine c_enter (args := [(.slice none 0 0), fv]) Try.func110 rfl Try.ntmps110 (by simp) ?_
  refine wp_seq_k fun K1 hK1 => ?_
  refine c_region ?_
  refine s_op (o_assign (v := (.slice none 0 0)) rfl ?_)
  refine s_nil ?_
  refine t_norm (hK1 _ _ ?_)
  refine wp_seq_k fun K2 hK2 => ?_
  refine c_region ?_
  refine s_op (o_move (v := (.slice none 0 0)) rfl ?_)
  refine s_op (o_move (v := fv) rfl ?_)
  refine s_op (o_callf (vs := #[(.slice none 0 0), fv]) ca147 rfl (args2 rfl rfl) (indexk_nil (fv := fv) hH.all ) ?_)
  rintro _ w5 ⟨rfl, hX3⟩
  refine ⟨_, rfl, ?_⟩
  have hH4 := hX3.of_all
  refine s_op (o_assign (v := (.int .i64 (-1))) rfl ?_)
  refine s_nil ?_
  refine t_norm (hK2 _ _ ?_)
  refine wp_seq_k fun K6 hK6 => ?_
  refine wp_seq_k fun K7 hK7 => ?_
  refine c_region ?_
  refine s_op (o_move (v := (.int .i64 (-1))) rfl ?_)
  refine s_op (o_eql (a := -1) (b := -1) rfl rfl ?_)
  refine s_nil ?_
  refine t_norm (hK7 _ _ ?_)
  refine c_cond rfl (fun h8 => ?_) (fun h8 => ?_)
  · -- -1 = -1
    refine wp_seq_k fun K9 hK9 => ?_
    refine c_region ?_
    refine s_op (o_move (v := (.slice none 0 0)) rfl ?_)
    refine s_op (o_assign (v := (.slice none 0 0)) rfl ?_)
    refine s_nil ?_
    refine t_norm (hK9 _ _ ?_)
    refine wp_ret ?_
    refine t_ret (c_ret1 Try.results110  (v := (.slice none 0 0)) rfl ?_)
    exact ⟨rfl, hH4⟩
  · -- not: -1 = -1
    exact absurd rfl h8
set_option maxHeartbeats 4000000 in
theorem insk_nil {E w : World} {R : List Hp}    {fv : Value}  (hH : Has E w [R]) :
    Calls Try.prog 171 #[(.slice none 0 0), (.int .i64 0), (.int .i64 0), fv] w fun e w' => e = .returned (.tuple #[]) ∧ Has E w' [R] := by
  refine c_enter (args := [(.slice none 0 0), (.int .i64 0), (.int .i64 0), fv]) Try.func171 rfl Try.ntmps171 (by simp) ?_
  refine wp_seq_k fun K1 hK1 => ?_
  refine c_region ?_
  refine s_op (o_move (v := (.int .i64 0)) rfl ?_)
  refine s_op (o_add (a := 0) (b := 1) rfl rfl (w64 (by omega) (by omega)) ?_)
  refine s_op (o_assign (v := (.int .i64 (0 + 1))) rfl ?_)
  refine s_nil ?_
  refine t_norm (hK1 _ _ ?_)
  refine wp_block ?_
  let I3 : Nat → (Nat → Value) → World → Prop := fun n__ r__ w__ => n__ = 0 + 1 ∧ Has E w__ [R] ∧ r__ 0 = (.slice none 0 0) ∧ r__ 1 = (.int .i64 0) ∧ r__ 2 = (.int .i64 0) ∧ r__ 3 = fv ∧ r__ 8 = (.int .i64 (0 + 1))
  refine c_loop I3 _ ⟨rfl, hH, rfl, rfl, rfl, rfl, rfl⟩ ?_
  rintro n_ r6 w4 ⟨rfl, hH5, e2_0, e2_1, e2_2, e2_3, e2_8⟩
  refine wp_seq_k fun K7 hK7 => ?_
  refine wp_seq_k fun K8 hK8 => ?_
  refine c_region ?_
  refine s_op (o_move (v := (.int .i64 (0 + 1))) e2_8 ?_)
  refine s_op (o_move (v := (.int .i64 0)) e2_2 ?_)
  refine s_op (o_lss (a := 0 + 1) (b := 0) rfl rfl ?_)
  refine s_nil ?_
  refine t_norm (hK8 _ _ ?_)
  refine c_cond rfl (fun h9 => ?_) (fun h9 => ?_)
  · -- 0 + 1 < 0
    exfalso; first | omega | (simp at h9; done)
  · -- not: 0 + 1 < 0
    refine wp_exit ?_
    refine t_exit (t_exit (x_in (?_)))
    refine c_end0 Try.results171  ?_
    exact ⟨rfl, hH5⟩
set_option maxHeartbeats 4000000 in
theorem stabk_nil {E w : World} {R : List Hp}   {fv : Value}  (hH : Has E w [R]) :
    Calls Try.prog 148 #[(.slice none 0 0), (.int .i64 0), fv] w fun e w' => e = .returned (.tuple #[]) ∧ Has E w' [R] := by
  refine c_enter (args := [(.slice none 0 0), (.int .i64 0), fv]) Try.func148 rfl Try.ntmps148 (by simp) ?_
  refine wp_seq_k fun K1 hK1 => ?_
  refine c_region ?_
  refine s_op (o_assign (v := (.int .i64 20)) rfl ?_)
  refine s_nil ?_
  refine t_norm (hK1 _ _ ?_)
  refine wp_seq_k fun K2 hK2 => ?_
  refine c_region ?_
  refine s_op (o_move (v := (.int .i64 20)) rfl ?_)
  refine s_op (o_assign (v := (.int .i64 0)) rfl ?_)
  refine s_op (o_assign (v := (.int .i64 20)) rfl ?_)
  refine s_nil ?_
  refine t_norm (hK2 _ _ ?_)
  refine wp_seq_k fun K3 hK3 => ?_
  refine wp_block ?_
  let I5 : Nat → (Nat → Value) → World → Prop := fun n__ r__ w__ => n__ = 0 + 1 ∧ Has E w__ [R] ∧ r__ 0 = (.slice none 0 0) ∧ r__ 1 = (.int .i64 0) ∧ r__ 2 = fv ∧ r__ 6 = (.int .i64 20) ∧ r__ 7 = (.int .i64 0) ∧ r__ 8 = (.int .i64 20)
  refine c_loop I5 _ ⟨rfl, hH, rfl, rfl, rfl, rfl, rfl, rfl⟩ ?_
  rintro n_ r8 w6 ⟨rfl, hH7, e4_0, e4_1, e4_2, e4_6, e4_7, e4_8⟩
  refine wp_seq_k fun K9 hK9 => ?_
  refine wp_seq_k fun K10 hK10 => ?_
  refine c_region ?_
  refine s_op (o_move (v := (.int .i64 20)) e4_8 ?_)
  refine s_op (o_move (v := (.int .i64 0)) e4_1 ?_)
  refine s_op (o_leq (a := 20) (b := 0) rfl rfl ?_)
  refine s_nil ?_
  refine t_norm (hK10 _ _ ?_)
  refine c_cond rfl (fun h11 => ?_) (fun h11 => ?_)
  · -- (20 : Int) ≤ (0 : Int)
    exfalso; first | omega | (simp at h11; done)
  · -- not: (20 : Int) ≤ (0 : Int)
    refine wp_exit ?_
    refine t_exit (t_exit (x_in (?_)))
    refine t_norm (hK3 _ _ ?_)
    refine wp_seq_k fun K12 hK12 => ?_
    refine c_region ?_
    refine s_op (o_move (v := (.slice none 0 0)) e4_0 ?_)
    refine s_op (o_move (v := (.int .i64 0)) e4_7 ?_)
    refine s_op (o_move (v := (.int .i64 0)) e4_1 ?_)
    refine s_op (o_move (v := fv) e4_2 ?_)
    refine s_op (o_callf (vs := #[(.slice none 0 0), (.int .i64 0), (.int .i64 0), fv]) ca171 rfl (args4 rfl rfl rfl rfl) (insk_nil (fv := fv) hH7.all ) ?_)
    rintro _ w15 ⟨rfl, hX13⟩
    refine ⟨_, rfl, ?_⟩
    have hH14 := hX13.of_all
    refine s_nil ?_
    refine t_norm (hK12 _ _ ?_)
    refine wp_block ?_
    let I17 : Nat → (Nat → Value) → World → Prop := fun n__ r__ w__ => n__ = 0 + 1 ∧ Has E w__ [R] ∧ r__ 0 = (.slice none 0 0) ∧ r__ 1 = (.int .i64 0) ∧ r__ 2 = fv ∧ r__ 6 = (.int .i64 20) ∧ r__ 7 = (.int .i64 0) ∧ r__ 8 = (.int .i64 20) ∧ r__ 13 = (.bool (decide ((20 : Int) ≤ (0 : Int))))
    refine c_loop I17 _ ⟨rfl, hH14, e4_0, e4_1, e4_2, e4_6, e4_7, e4_8, rfl⟩ ?_
    rintro n_ r20 w18 ⟨rfl, hH19, e16_0, e16_1, e16_2, e16_6, e16_7, e16_8, e16_13⟩
    refine wp_seq_k fun K21 hK21 => ?_
    refine wp_seq_k fun K22 hK22 => ?_
    refine c_region ?_
    refine s_op (o_move (v := (.int .i64 20)) e16_6 ?_)
    refine s_op (o_move (v := (.int .i64 0)) e16_1 ?_)
    refine s_op (o_lss (a := 20) (b := 0) rfl rfl ?_)
    refine s_nil ?_
    refine t_norm (hK22 _ _ ?_)
    refine c_cond rfl (fun h23 => ?_) (fun h23 => ?_)
    · -- (20 : Int) < (0 : Int)
      exfalso; first | omega | (simp at h23; done)
    · -- not: (20 : Int) < (0 : Int)
      refine wp_exit ?_
      refine t_exit (t_exit (x_in (?_)))
      refine c_end0 Try.results148  ?_
      exact ⟨rfl, hH19⟩
set_option maxHeartbeats 4000000 in
theorem sstk_nil {E w : World} {R : List Hp}  {fv : Value}  (hH : Has E w [R]) :
    Calls Try.prog 112 #[(.slice none 0 0), fv] w fun e w' => e = .returned (.tuple #[]) ∧ Has E w' [R] := by
  refine c_enter (args := [(.slice none 0 0), fv]) Try.func112 rfl Try.ntmps112 (by simp) ?_
  refine c_region ?_
  refine s_op (o_move (v := (.slice none 0 0)) rfl ?_)
  refine s_op (o_move (v := (.slice none 0 0)) rfl ?_)
  refine s_op (o_lenS Try.underlying190 rfl (sl_nil (L := []) 1) ?_)
  refine s_op (o_move (v := fv) rfl ?_)
  refine s_op (o_callf (vs := #[(.slice none 0 0), (.int .i64 ((0 : Nat) : Int)), fv]) ca148 rfl (args3 rfl rfl rfl) (stabk_nil (fv := fv) hH.all ) ?_)
  rintro _ w3 ⟨rfl, hX1⟩
  refine ⟨_, rfl, ?_⟩
  have hH2 := hX1.of_all
  refine s_nil ?_
  refine c_end0 Try.results112  ?_
  exact ⟨rfl, hH2⟩
set_option maxHeartbeats 4000000 in
theorem all_nil {E w : World} {R : List Hp}   (hH : Has E w [R]) :
    Calls Try.prog 105 #[(.pointer none)] w fun e w' => e = .returned (.slice none 0 0) ∧ Has E w' [R] := by
  refine c_enter (args := [(.pointer none)]) Try.func105 rfl Try.ntmps105 (by simp) ?_
  refine wp_seq_k fun K1 hK1 => ?_
  refine c_region ?_
  refine s_op (o_assign (v := (.slice none 0 0)) rfl ?_)
  refine s_nil ?_
  refine t_norm (hK1 _ _ ?_)
  refine wp_seq_k fun K2 hK2 => ?_
  refine c_region ?_
  refine s_op (o_assign (v := (.slice none 0 0)) rfl ?_)
  refine s_nil ?_
  refine t_norm (hK2 _ _ ?_)
  refine wp_seq_k fun K3 hK3 => ?_
  refine wp_seq_k fun K4 hK4 => ?_
  refine c_region ?_
  refine s_op (o_move (v := (.pointer none)) rfl ?_)
  refine s_op (o_pnnil (p := none) Try.underlying25 rfl rfl ?_)
  refine s_nil ?_
  refine t_norm (hK4 _ _ ?_)
  refine c_false rfl rfl ?_
  refine wp_skip ?_
  refine t_norm (hK3 _ _ ?_)
  refine wp_seq_k fun K5 hK5 => ?_
  refine c_region ?_
  refine s_op (o_move (v := (.slice none 0 0)) rfl ?_)
  refine s_op (o_assign (v := (.slice none 0 0)) rfl ?_)
  refine s_nil ?_
  refine t_norm (hK5 _ _ ?_)
  refine wp_ret ?_
  refine c_ret1 Try.results105  (v := (.slice none 0 0)) rfl ?_
  exact ⟨rfl, hH⟩
set_option maxHeartbeats 4000000 in
theorem ids_nil {E w : World} {R : List Hp}  {v_sts : Value} {sts : List Int}  (hH : Has E w [R]) (h_sts : Sl R 1 v_sts sts.length (sts.map iV)) :
    Calls Try.prog 65 #[(.pointer none), v_sts] w fun e w' => e = .returned (.slice none 0 0) ∧ Has E w' [R] := by
  refine c_enter (args := [(.pointer none), v_sts]) Try.func65 rfl Try.ntmps65 (by simp) ?_
  refine wp_seq_k fun K1 hK1 => ?_
  refine c_region ?_
  refine s_op (o_assign (v := (.slice none 0 0)) rfl ?_)
  refine s_nil ?_
  refine t_norm (hK1 _ _ ?_)
  refine wp_seq_k fun K2 hK2 => ?_
  refine c_region ?_
  refine s_op (o_assign (v := (.slice none 0 0)) rfl ?_)
  refine s_nil ?_
  refine t_norm (hK2 _ _ ?_)
  refine wp_seq_k fun K3 hK3 => ?_
  refine wp_seq_k fun K4 hK4 => ?_
  refine c_region ?_
  refine s_op (o_move (v := (.pointer none)) rfl ?_)
  refine s_op (o_callf (vs := #[(.pointer none)]) ca105 rfl (args1 rfl) (all_nil hH.all ) ?_)
  rintro _ w7 ⟨rfl, hX5⟩
  refine ⟨_, rfl, ?_⟩
  have hH6 := hX5.of_all
  refine s_op (o_lenS Try.underlying190 rfl (sl_nil (L := []) 1) ?_)
  refine s_op (o_move (v := (.int .i64 0)) rfl ?_)
  refine s_nil ?_
  refine t_norm (hK4 _ _ ?_)
  refine wp_block ?_
  let I9 : Nat → (Nat → Value) → World → Prop := fun n__ r__ w__ => ∃ (k : Nat), n__ = 0 - k ∧ Has E w__ [R] ∧ (k ≤ 0) ∧ r__ 0 = (.pointer none) ∧ r__ 1 = v_sts ∧ r__ 4 = (.slice none 0 0) ∧ r__ 5 = (.slice none 0 0) ∧ r__ 9 = (.slice none 0 0) ∧ r__ 10 = (.int .i64 ((0 : Nat) : Int)) ∧ r__ 11 = (.int .i64 (k : Int))
  refine c_loop I9 _ ⟨0, rfl, hH6, Nat.le_refl _, rfl, rfl, rfl, rfl, rfl, rfl, rfl⟩ ?_
  rintro n_ r12 w10 ⟨k, rfl, hH11, hk, e8_0, e8_1, e8_4, e8_5, e8_9, e8_10, e8_11⟩
  refine wp_seq_k fun K13 hK13 => ?_
  refine c_region ?_
  refine s_op (o_lss (a := (k : Int)) (b := ((0 : Nat) : Int)) e8_11 e8_10 ?_)
  refine s_nil ?_
  refine t_norm (hK13 _ _ ?_)
  refine wp_seq_k fun K14 hK14 => ?_
  refine c_cond rfl (fun h15 => ?_) (fun h15 => ?_)
  · -- (k : Int) < ((0 : Nat) : Int)
    exfalso; first | omega | (simp at h15; done)
  · -- not: (k : Int) < ((0 : Nat) : Int)
    refine wp_exit ?_
    refine t_exit (t_exit (x_in (?_)))
    refine t_norm (hK3 _ _ ?_)
    refine wp_seq_k fun K16 hK16 => ?_
    refine c_region ?_
    refine s_op (o_move (v := (.slice none 0 0)) e8_5 ?_)
    refine s_op (o_assign (v := (.slice none 0 0)) rfl ?_)
    refine s_nil ?_
    refine t_norm (hK16 _ _ ?_)
    refine wp_ret ?_
    refine c_ret1 Try.results65  (v := (.slice none 0 0)) rfl ?_
    exact ⟨rfl, hH11⟩
set_option maxHeartbeats 4000000 in
theorem settled_nil {E w : World} {R : List Hp}  {h : Int}  (hH : Has E w [R]) :
    Calls Try.prog 66 #[(.pointer none), (.int .i64 h)] w fun e w' => e = .returned (.slice none 0 0) ∧ Has E w' [R] := by
  refine c_enter (args := [(.pointer none), (.int .i64 h)]) Try.func66 rfl Try.ntmps66 (by simp) ?_
  refine wp_seq_k fun K1 hK1 => ?_
  refine c_region ?_
  refine s_op (o_box (cs := #[(.int .i64 h)]) rfl rfl hH fun b2 w3 hH4 => ?_)
  refine s_op (o_assign (v := (.slice none 0 0)) rfl ?_)
  refine s_nil ?_
  refine t_norm (hK1 _ _ ?_)
  refine wp_seq_k fun K5 hK5 => ?_
  refine c_region ?_
  refine s_op (o_move (v := (.pointer none)) rfl ?_)
  refine s_op (o_callf (vs := #[(.pointer none)]) ca105 rfl (args1 rfl) (all_nil hH4.all ) ?_)
  rintro _ w8 ⟨rfl, hX6⟩
  refine ⟨_, rfl, ?_⟩
  have hH7 := hX6.of_all
  refine s_op (o_makeFunc (vs := #[(.pointer (some ⟨b2, 0, none⟩))]) (cap1 rfl) ?_)
  refine s_op (o_callf (vs := #[(.slice none 0 0), (.func (.func 111) #[] #[(.pointer (some ⟨b2, 0, none⟩))])]) ca110 rfl (args2 rfl rfl) (delk_nil (fv := (.func (.func 111) #[] #[(.pointer (some ⟨b2, 0, none⟩))])) hH7.all ) ?_)
  rintro _ w11 ⟨rfl, hX9⟩
  refine ⟨_, rfl, ?_⟩
  have hH10 := hX9.of_all
  refine s_op (o_assign (v := (.slice none 0 0)) rfl ?_)
  refine s_nil ?_
  refine t_norm (hK5 _ _ ?_)
  refine wp_seq_k fun K12 hK12 => ?_
  refine c_region ?_
  refine s_op (o_move (v := (.slice none 0 0)) rfl ?_)
  refine s_op (o_callf (vs := #[(.slice none 0 0), (.func (.func 113) #[] #[])]) ca112 rfl (args2 rfl rfl) (sstk_nil (fv := (.func (.func 113) #[] #[])) hH10.all ) ?_)
  rintro _ w15 ⟨rfl, hX13⟩
  refine ⟨_, rfl, ?_⟩
  have hH14 := hX13.of_all
  refine s_nil ?_
  refine t_norm (hK12 _ _ ?_)
  refine wp_seq_k fun K16 hK16 => ?_
  refine c_region ?_
  refine s_op (o_assign (v := (.slice none 0 0)) rfl ?_)
  refine s_nil ?_
  refine t_norm (hK16 _ _ ?_)
  refine wp_seq_k fun K17 hK17 => ?_
  refine wp_seq_k fun K18 hK18 => ?_
  refine c_region ?_
  refine s_op (o_move (v := (.slice none 0 0)) rfl ?_)
  refine s_op (o_lenS Try.underlying190 rfl (sl_nil (L := []) 1) ?_)
  refine s_op (o_move (v := (.int .i64 0)) rfl ?_)
  refine s_nil ?_
  refine t_norm (hK18 _ _ ?_)
  refine wp_block ?_
  let I20 : Nat → (Nat → Value) → World → Prop := fun n__ r__ w__ => ∃ (k : Nat), n__ = 0 - k ∧ Has E w__ [[Hp.one b2 (.cells #[(.int .i64 h)] 3 (0, 0))], R] ∧ (k ≤ 0) ∧ r__ 0 = (.pointer none) ∧ r__ 1 = (.int .i64 h) ∧ r__ 3 = (.pointer (some ⟨b2, 0, none⟩)) ∧ r__ 4 = (.slice none 0 0) ∧ r__ 5 = (.slice none 0 0) ∧ r__ 6 = (.slice none 0 0) ∧ r__ 15 = (.slice none 0 0) ∧ r__ 16 = (.int .i64 ((0 : Nat) : Int)) ∧ r__ 17 = (.int .i64 (k : Int))
  refine c_loop I20 _ ⟨0, rfl, hH14, Nat.le_refl _, rfl, rfl, rfl, rfl, rfl, rfl, rfl, rfl, rfl⟩ ?_
  rintro n_ r23 w21 ⟨k, rfl, hH22, hk, e19_0, e19_1, e19_3, e19_4, e19_5, e19_6, e19_15, e19_16, e19_17⟩
  refine wp_seq_k fun K24 hK24 => ?_
  refine c_region ?_
  refine s_op (o_lss (a := (k : Int)) (b := ((0 : Nat) : Int)) e19_17 e19_16 ?_)
  refine s_nil ?_
  refine t_norm (hK24 _ _ ?_)
  refine wp_seq_k fun K25 hK25 => ?_
  refine c_cond rfl (fun h26 => ?_) (fun h26 => ?_)
  · -- (k : Int) < ((0 : Nat) : Int)
    exfalso; first | omega | (simp at h26; done)
  · -- not: (k : Int) < ((0 : Nat) : Int)
    refine wp_exit ?_
    refine t_exit (t_exit (x_in (?_)))
    refine t_norm (hK17 _ _ ?_)
    refine wp_seq_k fun K27 hK27 => ?_
    refine c_region ?_
    refine s_op (o_move (v := (.slice none 0 0)) e19_6 ?_)
    refine s_op (o_assign (v := (.slice none 0 0)) rfl ?_)
    refine s_nil ?_
    refine t_norm (hK27 _ _ ?_)
    refine wp_ret ?_
    refine c_ret1 Try.results66  (v := (.slice none 0 0)) rfl ?_
    have hH28 : Has E w21 [R] := (hH22.front 1 rfl).first 1 rfl
    exact ⟨rfl, hH28⟩
set_option maxHeartbeats 4000000 in
theorem oldest_nil {E w : World} {R : List Hp}   (hH : Has E w [R]) :
    Calls Try.prog 64 #[(.pointer none)] w fun e w' => e = .returned (.tuple #[(.int .i64 0), (.bool false)]) ∧ Has E w' [R] := by
  refine c_enter (args := [(.pointer none)]) Try.func64 rfl Try.ntmps64 (by simp) ?_
  refine wp_seq_k fun K1 hK1 => ?_
  refine c_region ?_
  refine s_op (o_assign (v := (.int .i64 0)) rfl ?_)
  refine s_op (o_assign (v := (.bool false)) rfl ?_)
  refine s_nil ?_
  refine t_norm (hK1 _ _ ?_)
  refine wp_seq_k fun K2 hK2 => ?_
  refine c_region ?_
  refine s_op (o_move (v := (.pointer none)) rfl ?_)
  refine s_op (o_callf (vs := #[(.pointer none)]) ca105 rfl (args1 rfl) (all_nil hH.all ) ?_)
  rintro _ w5 ⟨rfl, hX3⟩
  refine ⟨_, rfl, ?_⟩
  have hH4 := hX3.of_all
  refine s_op (o_assign (v := (.slice none 0 0)) rfl ?_)
  refine s_nil ?_
  refine t_norm (hK2 _ _ ?_)
  refine wp_seq_k fun K6 hK6 => ?_
  refine wp_seq_k fun K7 hK7 => ?_
  refine c_region ?_
  refine s_op (o_move (v := (.slice none 0 0)) rfl ?_)
  refine s_op (o_lenS Try.underlying190 rfl (sl_nil (L := []) 1) ?_)
  refine s_op (o_eql (a := ((0 : Nat) : Int)) (b := 0) rfl rfl ?_)
  refine s_nil ?_
  refine t_norm (hK7 _ _ ?_)
  refine c_cond rfl (fun h8 => ?_) (fun h8 => ?_)
  · -- ((0 : Nat) : Int) = 0
    refine wp_seq_k fun K9 hK9 => ?_
    refine c_region ?_
    refine s_op (o_assign (v := (.int .i64 0)) rfl ?_)
    refine s_op (o_assign (v := (.bool false)) rfl ?_)
    refine s_nil ?_
    refine t_norm (hK9 _ _ ?_)
    refine wp_ret ?_
    refine t_ret (c_ret2 Try.results64  (v := (.int .i64 0)) rfl (x := (.bool false)) rfl ?_)
    exact ⟨rfl, hH4⟩
  · -- not: ((0 : Nat) : Int) = 0
    exact absurd (by first | rfl | simp) h8
set_option maxHeartbeats 4000000 in
theorem get_nil {E w : World} {R : List Hp}  {id : Int}  (hH : Has E w [R]) :
    Calls Try.prog 19 #[(.pointer none), (.int .i64 id)] w fun e w' => e = .returned (.tuple #[(.agg #[(.int .i64 0), (.int .i64 0), (.int .i64 0), (.int .i64 0), (.int .i64 0), (.slice none 0 0), (.slice none 0 0)]), (.bool false)]) ∧ Has E w' [R] := by
  refine c_enter (args := [(.pointer none), (.int .i64 id)]) Try.func19 rfl Try.ntmps19 (by simp) ?_
  refine wp_seq_k fun K1 hK1 => ?_
  refine c_region ?_
  refine s_op (o_alloc (cs := #[(.int .i64 0), (.int .i64 0), (.int .i64 0), (.int .i64 0), (.int .i64 0), (.slice none 0 0), (.slice none 0 0)]) ti35 rfl hH fun b2 w3 hH4 => ?_)
  refine s_op (o_assign (v := (.bool false)) rfl ?_)
  refine s_nil ?_
  refine t_norm (hK1 _ _ ?_)
  refine wp_seq_k fun K5 hK5 => ?_
  refine wp_seq_k fun K6 hK6 => ?_
  refine c_region ?_
  refine s_op (o_move (v := (.pointer none)) rfl ?_)
  refine s_op (o_pnil (p := none) Try.underlying25 rfl rfl ?_)
  refine s_op (o_move (v := (.bool true)) rfl ?_)
  refine s_off (b' := true) 8 rfl rfl rfl ?_
  refine s_off (b' := true) 8 rfl rfl rfl ?_
  refine s_off (b' := true) 8 rfl rfl rfl ?_
  refine s_off (b' := true) 8 rfl rfl rfl ?_
  refine s_off (b' := true) 8 rfl rfl rfl ?_
  refine s_off (b' := true) 8 rfl rfl rfl ?_
  refine s_off (b' := true) 8 rfl rfl rfl ?_
  refine s_op (o_pick_t (u := (.bool true)) rfl rfl ?_)
  refine s_nil ?_
  refine t_norm (hK6 _ _ ?_)
  refine c_true rfl rfl ?_
  refine wp_seq_k fun K7 hK7 => ?_
  refine c_region ?_
  refine s_op (o_sight (v := (.agg #[(.int .i64 0), (.int .i64 0), (.int .i64 0), (.int .i64 0), (.int .i64 0), (.slice none 0 0), (.slice none 0 0)])) (fun _ => by kernel_rfl) ?_)
  refine s_eff (o_storeN (vs := [(.int .i64 0), (.int .i64 0), (.int .i64 0), (.int .i64 0), (.int .i64 0), (.slice none 0 0), (.slice none 0 0)]) (c' := #[(.int .i64 0), (.int .i64 0), (.int .i64 0), (.int .i64 0), (.int .i64 0), (.slice none 0 0), (.slice none 0 0)]) ti35 rfl rfl rfl rfl (by intro u hu; simp only [List.mem_cons, List.not_mem_nil, or_false] at hu; rcases hu with rfl | rfl | rfl | rfl | rfl | rfl | rfl <;> first | rfl) (by simp) (by kernel_rfl) (hH4.front 0 rfl) fun w8 hH9 => ?_)
  refine s_op (o_assign (v := (.bool false)) rfl ?_)
  refine s_nil ?_
  refine t_norm (hK7 _ _ ?_)
  refine wp_ret ?_
  refine t_ret (c_retC2 Try.results19 rfl (run_loadVarN (cs := [(.int .i64 0), (.int .i64 0), (.int .i64 0), (.int .i64 0), (.int .i64 0), (.slice none 0 0), (.slice none 0 0)]) Try.underlying35 rfl ti35 hH9 (seg_sub 0 rfl) (CellsAt.one rfl)) (x := (.bool false)) rfl ?_)
  have hH10 : Has E w8 [R] := (hH9.front 1 rfl).first 1 rfl
  exact ⟨rfl, hH10⟩
set_option maxHeartbeats 4000000 in
theorem drop_nil {E w : World} {R : List Hp}  {v_ids : Value} {ids : List Int}  (hH : Has E w [R]) (h_ids : Sl R 1 v_ids ids.length (ids.map iV)) :
    Calls Try.prog 67 #[(.pointer none), v_ids] w fun e w' => e = .returned (.int .i64 0) ∧ Has E w' [R] := by
  have hn_ := h_ids.le
  refine c_enter (args := [(.pointer none), v_ids]) Try.func67 rfl Try.ntmps67 (by simp) ?_
  refine wp_seq_k fun K1 hK1 => ?_
  refine c_region ?_
  refine s_op (o_assign (v := (.int .i64 0)) rfl ?_)
  refine s_nil ?_
  refine t_norm (hK1 _ _ ?_)
  refine wp_seq_k fun K2 hK2 => ?_
  refine c_region ?_
  refine s_op (o_assign (v := (.int .i64 0)) rfl ?_)
  refine s_nil ?_
  refine t_norm (hK2 _ _ ?_)
  refine wp_seq_k fun K3 hK3 => ?_
  refine wp_seq_k fun K4 hK4 => ?_
  refine c_region ?_
  refine s_op (o_move (v := v_ids) rfl ?_)
  refine s_op (o_lenS Try.underlying54 rfl h_ids ?_)
  refine s_op (o_move (v := (.int .i64 0)) rfl ?_)
  refine s_nil ?_
  refine t_norm (hK4 _ _ ?_)
  refine wp_block ?_
  let I6 : Nat → (Nat → Value) → World → Prop := fun n__ r__ w__ => ∃ (k : Nat), n__ = ids.length - k ∧ Has E w__ [R] ∧ (k ≤ ids.length) ∧ r__ 0 = (.pointer none) ∧ r__ 1 = v_ids ∧ r__ 4 = (.int .i64 0) ∧ r__ 5 = (.int .i64 0) ∧ r__ 10 = v_ids ∧ r__ 11 = (.int .i64 ((ids.length : Nat) : Int)) ∧ r__ 12 = (.int .i64 (k : Int))
  refine c_loop I6 _ ⟨0, rfl, hH, Nat.zero_le _, rfl, rfl, rfl, rfl, rfl, rfl, rfl⟩ ?_
  rintro n_ r9 w7 ⟨k, rfl, hH8, hk, e5_0, e5_1, e5_4, e5_5, e5_10, e5_11, e5_12⟩
  refine wp_seq_k fun K10 hK10 => ?_
  refine c_region ?_
  refine s_op (o_lss (a := (k : Int)) (b := ((ids.length : Nat) : Int)) e5_12 e5_11 ?_)
  refine s_nil ?_
  refine t_norm (hK10 _ _ ?_)
  refine wp_seq_k fun K11 hK11 => ?_
  refine c_cond rfl (fun h12 => ?_) (fun h12 => ?_)
  · -- (k : Int) < ((ids.length : Nat) : Int)
    refine wp_skip ?_
    refine t_norm (hK11 _ _ ?_)
    refine wp_seq_k fun K13 hK13 => ?_
    refine wp_block ?_
    refine wp_seq_k fun K14 hK14 => ?_
    refine c_region ?_
    obtain ⟨x18, hx19⟩ : ∃ x_, ids[((k : Int)).toNat]? = some x_ := get_some (by omega)
    refine s_op (o_index1 Try.underlying54 ti3 e5_10 h_ids e5_12 (by omega) hx19 fun b15 o16 hc17 => ?_)
    refine s_op (o_load1 (v := (.int .i64 x18)) Try.underlying3 rfl rfl hH8 (seg_sub 0 rfl) hc17 ?_)
    refine s_op (o_assign (v := (.int .i64 x18)) rfl ?_)
    refine s_nil ?_
    refine t_norm (hK14 _ _ ?_)
    refine wp_seq_k fun K20 hK20 => ?_
    refine c_region ?_
    refine s_op (o_move (v := (.pointer none)) e5_0 ?_)
    refine s_op (o_move (v := (.int .i64 x18)) rfl ?_)
    refine s_op (o_callf (vs := #[(.pointer none), (.int .i64 x18)]) ca19 rfl (args2 rfl rfl) (get_nil (id := x18) hH8.all ) ?_)
    rintro _ w23 ⟨rfl, hX21⟩
    refine ⟨_, rfl, ?_⟩
    have hH22 := hX21.of_all
    refine s_op (o_move (v := (.tuple #[(.agg #[(.int .i64 0), (.int .i64 0), (.int .i64 0), (.int .i64 0), (.int .i64 0), (.slice none 0 0), (.slice none 0 0)]), (.bool false)])) rfl ?_)
    refine s_op (o_extract (v := (.agg #[(.int .i64 0), (.int .i64 0), (.int .i64 0), (.int .i64 0), (.int .i64 0), (.slice none 0 0), (.slice none 0 0)])) rfl rfl ?_)
    refine s_op (o_extract (v := (.bool false)) rfl rfl ?_)
    refine s_op (o_alloc (cs := #[(.int .i64 0), (.int .i64 0), (.int .i64 0), (.int .i64 0), (.int .i64 0), (.slice none 0 0), (.slice none 0 0)]) ti35 rfl hH22 fun b24 w25 hH26 => ?_)
    refine s_eff (o_storeN (vs := [(.int .i64 0), (.int .i64 0), (.int .i64 0), (.int .i64 0), (.int .i64 0), (.slice none 0 0), (.slice none 0 0)]) (c' := #[(.int .i64 0), (.int .i64 0), (.int .i64 0), (.int .i64 0), (.int .i64 0), (.slice none 0 0), (.slice none 0 0)]) ti35 rfl rfl rfl rfl (by intro u hu; simp only [List.mem_cons, List.not_mem_nil, or_false] at hu; rcases hu with rfl | rfl | rfl | rfl | rfl | rfl | rfl <;> first | rfl) (by simp) (by kernel_rfl) (hH26.front 0 rfl) fun w27 hH28 => ?_)
    refine s_op (o_assign (v := (.bool false)) rfl ?_)
    refine s_nil ?_
    refine t_norm (hK20 _ _ ?_)
    refine wp_seq_k fun K29 hK29 => ?_
    refine c_region ?_
    refine s_op (o_move (v := (.bool false)) rfl ?_)
    refine s_nil ?_
    refine t_norm (hK29 _ _ ?_)
    refine c_false rfl rfl ?_
    refine wp_skip ?_
    refine b_norm ?_
    refine t_norm (hK13 _ _ ?_)
    refine c_region ?_
    refine s_op (o_add (a := (k : Int)) (b := 1) e5_12 rfl (w64 (by omega) (by omega)) ?_)
    refine s_op (o_move (v := (.int .i64 ((k : Int) + 1))) rfl ?_)
    refine s_nil ?_
    have hH30 : Has E w27 [R] := (hH28.front 1 rfl).first 1 rfl
    refine t_norm ⟨ids.length - (k + 1), _, rfl, ?_, ?_⟩
    · omega
    · exact ⟨(k + 1), rfl, hH30, (by omega), e5_0, e5_1, e5_4, e5_5, e5_10, e5_11, rfl⟩
  · -- not: (k : Int) < ((ids.length : Nat) : Int)
    refine wp_exit ?_
    refine t_exit (t_exit (x_in (?_)))
    refine t_norm (hK3 _ _ ?_)
    refine wp_seq_k fun K31 hK31 => ?_
    refine c_region ?_
    refine s_op (o_move (v := (.int .i64 0)) e5_5 ?_)
    refine s_op (o_assign (v := (.int .i64 0)) rfl ?_)
    refine s_nil ?_
    refine t_norm (hK31 _ _ ?_)
    refine wp_ret ?_
    refine c_ret1 Try.results67  (v := (.int .i64 0)) rfl ?_
    exact ⟨rfl, hH8⟩
set_option maxHeartbeats 4000000 in
theorem note_nil {E w : World} {R : List Hp}  {home : Int} {v_rs : Value} {rs : List Rec}  (hH : Has E w [R]) (h_rs : Sl R 11 v_rs rs.length (rs.flatMap recC)) :
    Calls Try.prog 18 #[(.pointer none), (.int .i64 home), v_rs] w fun e w' => e = .returned (.int .i64 1) ∧ Has E w' [R] := by
  refine c_enter (args := [(.pointer none), (.int .i64 home), v_rs]) Try.func18 rfl Try.ntmps18 (by simp) ?_
  refine wp_seq_k fun K1 hK1 => ?_
  refine c_region ?_
  refine s_op (o_assign (v := (.int .i64 0)) rfl ?_)
  refine s_nil ?_
  refine t_norm (hK1 _ _ ?_)
  refine wp_seq_k fun K2 hK2 => ?_
  refine wp_seq_k fun K3 hK3 => ?_
  refine c_region ?_
  refine s_op (o_move (v := (.pointer none)) rfl ?_)
  refine s_op (o_pnil (p := none) Try.underlying25 rfl rfl ?_)
  refine s_nil ?_
  refine t_norm (hK3 _ _ ?_)
  refine c_true rfl rfl ?_
  refine wp_seq_k fun K4 hK4 => ?_
  refine c_region ?_
  refine s_op (o_assign (v := (.int .i64 1)) rfl ?_)
  refine s_nil ?_
  refine t_norm (hK4 _ _ ?_)
  refine wp_ret ?_
  refine t_ret (c_ret1 Try.results18  (v := (.int .i64 1)) rfl ?_)
  exact ⟨rfl, hH⟩
set_option maxHeartbeats 4000000 in
theorem back_nil {E w : World} {R : List Hp}  {id : Int} {v_no : Value} {no : List Int}  (hH : Has E w [R]) (h_no : Sl R 1 v_no no.length (no.map iV)) :
    Calls Try.prog 20 #[(.pointer none), (.int .i64 id), v_no] w fun e w' => e = .returned (.tuple #[(.slice none 0 0), (.int .i64 1)]) ∧ Has E w' [R] := by
  refine c_enter (args := [(.pointer none), (.int .i64 id), v_no]) Try.func20 rfl Try.ntmps20 (by simp) ?_
  refine wp_seq_k fun K1 hK1 => ?_
  refine c_region ?_
  refine s_op (o_assign (v := (.slice none 0 0)) rfl ?_)
  refine s_op (o_assign (v := (.int .i64 0)) rfl ?_)
  refine s_nil ?_
  refine t_norm (hK1 _ _ ?_)
  refine wp_seq_k fun K2 hK2 => ?_
  refine wp_seq_k fun K3 hK3 => ?_
  refine c_region ?_
  refine s_op (o_move (v := (.pointer none)) rfl ?_)
  refine s_op (o_pnil (p := none) Try.underlying25 rfl rfl ?_)
  refine s_nil ?_
  refine t_norm (hK3 _ _ ?_)
  refine c_true rfl rfl ?_
  refine wp_seq_k fun K4 hK4 => ?_
  refine c_region ?_
  refine s_op (o_assign (v := (.slice none 0 0)) rfl ?_)
  refine s_op (o_assign (v := (.int .i64 1)) rfl ?_)
  refine s_nil ?_
  refine t_norm (hK4 _ _ ?_)
  refine wp_ret ?_
  refine t_ret (c_ret2 Try.results20  (v := (.slice none 0 0)) rfl (x := (.int .i64 1)) rfl ?_)
  exact ⟨rfl, hH⟩
set_option maxHeartbeats 4000000 in
theorem TxnNone_c {E w : World} {R : List Hp} {id : Int} {r : Rec}  (hH : Has E w [R]) :
    Calls Try.prog 14 #[(.int .i64 id), (.agg #[(.int .i64 r.kind), (.int .i64 r.gsn), (.int .i64 r.txn), (.int .i64 r.prev), (.int .i64 r.page), (S r.key), (.bool r.bh), (S r.bv), (.bool r.ah), (S r.av), (.int .i64 r.undo)])] w fun e w' => e = .returned (.bool true) ∧ Has E w' [R] := by
  refine c_enter (args := [(.int .i64 id), (.agg #[(.int .i64 r.kind), (.int .i64 r.gsn), (.int .i64 r.txn), (.int .i64 r.prev), (.int .i64 r.page), (S r.key), (.bool r.bh), (S r.bv), (.bool r.ah), (S r.av), (.int .i64 r.undo)])]) Try.func14 rfl Try.ntmps14 (by simp) ?_
  refine wp_seq_k fun K1 hK1 => ?_
  refine c_region ?_
  refine s_op (o_box (cs := #[(.int .i64 r.kind), (.int .i64 r.gsn), (.int .i64 r.txn), (.int .i64 r.prev), (.int .i64 r.page), (S r.key), (.bool r.bh), (S r.bv), (.bool r.ah), (S r.av), (.int .i64 r.undo)]) rfl rfl hH fun b2 w3 hH4 => ?_)
  refine s_op (o_assign (v := (.bool false)) rfl ?_)
  refine s_nil ?_
  refine t_norm (hK1 _ _ ?_)
  refine wp_seq_k fun K5 hK5 => ?_
  refine wp_seq_k fun K6 hK6 => ?_
  refine c_region ?_
  refine s_op (o_loadN (cs := [(.int .i64 r.kind), (.int .i64 r.gsn), (.int .i64 r.txn), (.int .i64 r.prev), (.int .i64 r.page), (S r.key), (.bool r.bh), (S r.bv), (.bool r.ah), (S r.av), (.int .i64 r.undo)]) Try.underlying32 rfl ti32 rfl hH4 (seg_sub 0 rfl) (CellsAt.one rfl) ?_)
  refine s_op (o_buildSlice (ps := #[(0, (.agg #[(.int .i64 r.kind), (.int .i64 r.gsn), (.int .i64 r.txn), (.int .i64 r.prev), (.int .i64 r.page), (S r.key), (.bool r.bh), (S r.bv), (.bool r.ah), (S r.av), (.int .i64 r.undo)]))]) (cells := #[(.int .i64 r.kind), (.int .i64 r.gsn), (.int .i64 r.txn), (.int .i64 r.prev), (.int .i64 r.page), (S r.key), (.bool r.bh), (S r.bv), (.bool r.ah), (S r.av), (.int .i64 r.undo)]) Try.underlying22 ti32 (by decide) (parts1 rfl) (by kernel_rfl) hH4 fun b7 w8 hH9 => ?_)
  refine s_op (o_callf (vs := #[(.slice (some ⟨b7, 0, none⟩) 1 1)]) ca15 rfl (args1 rfl) (great17_c (l := [r]) hH9.all ((sl_litF (f := recC) (l := [r]) recC_len rfl rfl (by simp)).mono (seg_sub 0 rfl))) ?_)
  rintro _ w14 ⟨gb_10, rfl, hg_11, hX12⟩
  refine ⟨_, rfl, ?_⟩
  have hH13 : Has E w14 [[Hp.one b7 (.cells #[(.int .i64 r.kind), (.int .i64 r.gsn), (.int .i64 r.txn), (.int .i64 r.prev), (.int .i64 r.page), (S r.key), (.bool r.bh), (S r.bv), (.bool r.ah), (S r.av), (.int .i64 r.undo)] 32 (0, 0))], [Hp.one b2 (.cells #[(.int .i64 r.kind), (.int .i64 r.gsn), (.int .i64 r.txn), (.int .i64 r.prev), (.int .i64 r.page), (S r.key), (.bool r.bh), (S r.bv), (.bool r.ah), (S r.av), (.int .i64 r.undo)] 32 (0, 0))], R] := hX12.of_all
  refine s_nil ?_
  refine t_norm (hK6 _ _ ?_)
  refine c_condb rfl (fun h15 => ?_) (fun h15 => ?_)
  · -- gb_10
    refine wp_seq_k fun K16 hK16 => ?_
    refine c_region ?_
    refine s_op (o_callf (vs := #[]) ca16 rfl (args0) (awake17_c hH13.all ) ?_)
    rintro _ w19 ⟨rfl, hX17⟩
    refine ⟨_, rfl, ?_⟩
    have hH18 := hX17.of_all
    refine s_op (o_assign (v := (.bool true)) rfl ?_)
    refine s_nil ?_
    refine t_norm (hK16 _ _ ?_)
    refine wp_ret ?_
    refine t_ret (c_ret1 Try.results14  (v := (.bool true)) rfl ?_)
    have hH20 : Has E w19 [R] := (hH18.front 2 rfl).first 1 rfl
    exact ⟨rfl, hH20⟩
  · -- not: gb_10
    refine wp_skip ?_
    refine t_norm (hK5 _ _ ?_)
    refine wp_seq_k fun K21 hK21 => ?_
    refine c_region ?_
    refine s_op (o_assign (v := (.pointer none)) rfl ?_)
    refine s_nil ?_
    refine t_norm (hK21 _ _ ?_)
    refine wp_seq_k fun K22 hK22 => ?_
    refine c_region ?_
    refine s_op (o_move (v := (.pointer none)) rfl ?_)
    refine s_op (o_move (v := (.int .i64 id)) rfl ?_)
    refine s_op (o_callf (vs := #[(.pointer none), (.int .i64 id)]) ca19 rfl (args2 rfl rfl) (get_nil (id := id) hH13.all ) ?_)
    rintro _ w25 ⟨rfl, hX23⟩
    refine ⟨_, rfl, ?_⟩
    have hH24 := hX23.of_all
    refine s_op (o_move (v := (.tuple #[(.agg #[(.int .i64 0), (.int .i64 0), (.int .i64 0), (.int .i64 0), (.int .i64 0), (.slice none 0 0), (.slice none 0 0)]), (.bool false)])) rfl ?_)
    refine s_op (o_extract (v := (.agg #[(.int .i64 0), (.int .i64 0), (.int .i64 0), (.int .i64 0), (.int .i64 0), (.slice none 0 0), (.slice none 0 0)])) rfl rfl ?_)
    refine s_op (o_extract (v := (.bool false)) rfl rfl ?_)
    refine s_op (o_alloc (cs := #[(.int .i64 0), (.int .i64 0), (.int .i64 0), (.int .i64 0), (.int .i64 0), (.slice none 0 0), (.slice none 0 0)]) ti35 rfl hH24 fun b26 w27 hH28 => ?_)
    refine s_eff (o_storeN (vs := [(.int .i64 0), (.int .i64 0), (.int .i64 0), (.int .i64 0), (.int .i64 0), (.slice none 0 0), (.slice none 0 0)]) (c' := #[(.int .i64 0), (.int .i64 0), (.int .i64 0), (.int .i64 0), (.int .i64 0), (.slice none 0 0), (.slice none 0 0)]) ti35 rfl rfl rfl rfl (by intro u hu; simp only [List.mem_cons, List.not_mem_nil, or_false] at hu; rcases hu with rfl | rfl | rfl | rfl | rfl | rfl | rfl <;> first | rfl) (by simp) (by kernel_rfl) (hH28.front 0 rfl) fun w29 hH30 => ?_)
    refine s_op (o_assign (v := (.bool false)) rfl ?_)
    refine s_nil ?_
    refine t_norm (hK22 _ _ ?_)
    refine wp_seq_k fun K31 hK31 => ?_
    refine c_region ?_
    refine s_op (o_move (v := (.pointer none)) rfl ?_)
    refine s_op (o_move (v := (.int .i64 id)) rfl ?_)
    refine s_op (o_callf (vs := #[(.pointer none), (.int .i64 id), (.slice none 0 0)]) ca20 rfl (args3 rfl rfl rfl) (back_nil (id := id) (no := ([] : List Int)) hH30.all (sl_nil 1)) ?_)
    rintro _ w34 ⟨rfl, hX32⟩
    refine ⟨_, rfl, ?_⟩
    have hH33 := hX32.of_all
    refine s_op (o_move (v := (.tuple #[(.slice none 0 0), (.int .i64 1)])) rfl ?_)
    refine s_op (o_extract (v := (.slice none 0 0)) rfl rfl ?_)
    refine s_op (o_extract (v := (.int .i64 1)) rfl rfl ?_)
    refine s_op (o_assign (v := (.slice none 0 0)) rfl ?_)
    refine s_op (o_assign (v := (.int .i64 1)) rfl ?_)
    refine s_nil ?_
    refine t_norm (hK31 _ _ ?_)
    refine wp_seq_k fun K35 hK35 => ?_
    refine c_region ?_
    refine s_op (o_move (v := (.pointer none)) rfl ?_)
    refine s_op (o_callf (vs := #[(.pointer none)]) ca64 rfl (args1 rfl) (oldest_nil hH33.all ) ?_)
    rintro _ w38 ⟨rfl, hX36⟩
    refine ⟨_, rfl, ?_⟩
    have hH37 := hX36.of_all
    refine s_op (o_move (v := (.tuple #[(.int .i64 0), (.bool false)])) rfl ?_)
    refine s_op (o_extract (v := (.int .i64 0)) rfl rfl ?_)
    refine s_op (o_extract (v := (.bool false)) rfl rfl ?_)
    refine s_op (o_assign (v := (.int .i64 0)) rfl ?_)
    refine s_op (o_assign (v := (.bool false)) rfl ?_)
    refine s_nil ?_
    refine t_norm (hK35 _ _ ?_)
    refine wp_seq_k fun K39 hK39 => ?_
    refine c_region ?_
    refine s_op (o_move (v := (.pointer none)) rfl ?_)
    refine s_op (o_move (v := (.int .i64 id)) rfl ?_)
    refine s_op (o_loadN (cs := [(.int .i64 r.kind), (.int .i64 r.gsn), (.int .i64 r.txn), (.int .i64 r.prev), (.int .i64 r.page), (S r.key), (.bool r.bh), (S r.bv), (.bool r.ah), (S r.av), (.int .i64 r.undo)]) Try.underlying32 rfl ti32 rfl hH37 (seg_sub 2 rfl) (CellsAt.one rfl) ?_)
    refine s_op (o_buildSlice (ps := #[(0, (.agg #[(.int .i64 r.kind), (.int .i64 r.gsn), (.int .i64 r.txn), (.int .i64 r.prev), (.int .i64 r.page), (S r.key), (.bool r.bh), (S r.bv), (.bool r.ah), (S r.av), (.int .i64 r.undo)]))]) (cells := #[(.int .i64 r.kind), (.int .i64 r.gsn), (.int .i64 r.txn), (.int .i64 r.prev), (.int .i64 r.page), (S r.key), (.bool r.bh), (S r.bv), (.bool r.ah), (S r.av), (.int .i64 r.undo)]) Try.underlying22 ti32 (by decide) (parts1 rfl) (by kernel_rfl) hH37 fun b40 w41 hH42 => ?_)
    refine s_op (o_callf (vs := #[(.pointer none), (.int .i64 id), (.slice (some ⟨b40, 0, none⟩) 1 1)]) ca18 rfl (args3 rfl rfl rfl) (note_nil (home := id) (rs := [r]) hH42.all ((sl_litF (f := recC) (l := [r]) recC_len rfl rfl (by simp)).mono (seg_sub 0 rfl))) ?_)
    rintro _ w45 ⟨rfl, hX43⟩
    refine ⟨_, rfl, ?_⟩
    have hH44 := hX43.of_all
    refine s_op (o_eql (a := 1) (b := 1) rfl rfl ?_)
    refine s_op (o_move (v := (.bool (decide ((1 : Int) = (1 : Int))))) rfl ?_)
    by_cases h46 : (1 : Int) = (1 : Int)
    · -- (1 : Int) = (1 : Int)
      refine s_on 39 rfl (congrArg Value.bool (decide_eq_true h46)) (o_fieldAddr (k := 0) (fun _ => by kernel_rfl) rfl ?_)
      refine s_on 39 rfl (congrArg Value.bool (decide_eq_true h46)) (o_load1 (v := (.int .i64 0)) Try.underlying3 rfl rfl hH44 (seg_sub 1 rfl) (CellsAt.one rfl) ?_)
      refine s_on 39 rfl (congrArg Value.bool (decide_eq_true h46)) (o_eql (a := 0) (b := 0) rfl rfl ?_)
      refine s_op (o_pick_t (u := (.bool (decide ((0 : Int) = (0 : Int))))) ((rfl : _ = _).trans (congrArg Value.bool (decide_eq_true h46))) rfl ?_)
      refine s_op (o_move (v := (.bool (decide ((0 : Int) = (0 : Int))))) rfl ?_)
      by_cases h47 : (0 : Int) = (0 : Int)
      · -- (0 : Int) = (0 : Int)
        refine s_on 44 rfl (congrArg Value.bool (decide_eq_true h47)) (o_move (v := (.bool false)) rfl ?_)
        refine s_on 44 rfl (congrArg Value.bool (decide_eq_true h47)) (o_not rfl ?_)
        refine s_op (o_pick_t (u := (.bool true)) ((rfl : _ = _).trans (congrArg Value.bool (decide_eq_true h47))) rfl ?_)
        refine s_op (o_move (v := (.bool true)) rfl ?_)
        refine s_on 48 rfl rfl (o_move (v := (.slice none 0 0)) rfl ?_)
        refine s_on 48 rfl rfl (o_lenS Try.underlying22 rfl (sl_nil (L := []) 1) ?_)
        refine s_on 48 rfl rfl (o_eql (a := ((0 : Nat) : Int)) (b := 0) rfl rfl ?_)
        refine s_op (o_pick_t (u := (.bool (decide (((0 : Nat) : Int) = 0)))) rfl rfl ?_)
        refine s_op (o_move (v := (.bool (decide (((0 : Nat) : Int) = 0)))) rfl ?_)
        by_cases h48 : ((0 : Nat) : Int) = 0
        · -- ((0 : Nat) : Int) = 0
          refine s_on 53 rfl (congrArg Value.bool (decide_eq_true h48)) (o_move (v := (.int .i64 1)) rfl ?_)
          refine s_on 53 rfl (congrArg Value.bool (decide_eq_true h48)) (o_eql (a := 1) (b := 1) rfl rfl ?_)
          refine s_op (o_pick_t (u := (.bool (decide ((1 : Int) = (1 : Int))))) ((rfl : _ = _).trans (congrArg Value.bool (decide_eq_true h48))) rfl ?_)
          refine s_op (o_move (v := (.bool (decide ((1 : Int) = (1 : Int))))) rfl ?_)
          refine s_on 57 rfl (congrArg Value.bool (decide_eq_true h46)) (o_move (v := (.pointer none)) rfl ?_)
          refine s_on 57 rfl (congrArg Value.bool (decide_eq_true h46)) (o_callf (vs := #[(.pointer none), (.slice none 0 0)]) ca65 rfl (args2 rfl rfl) (ids_nil (sts := ([] : List Int)) hH44.all (sl_nil 1)) ?_)
          rintro _ w51 ⟨rfl, hX49⟩
          refine ⟨_, rfl, ?_⟩
          have hH50 := hX49.of_all
          refine s_on 57 rfl (congrArg Value.bool (decide_eq_true h46)) (o_lenS Try.underlying54 rfl (sl_nil (L := []) 1) ?_)
          refine s_on 57 rfl (congrArg Value.bool (decide_eq_true h46)) (o_eql (a := ((0 : Nat) : Int)) (b := 0) rfl rfl ?_)
          refine s_op (o_pick_t (u := (.bool (decide (((0 : Nat) : Int) = 0)))) ((rfl : _ = _).trans (congrArg Value.bool (decide_eq_true h46))) rfl ?_)
          refine s_op (o_move (v := (.bool (decide (((0 : Nat) : Int) = 0)))) rfl ?_)
          refine s_on 63 rfl (congrArg Value.bool (decide_eq_true h48)) (o_move (v := (.pointer none)) rfl ?_)
          refine s_on 63 rfl (congrArg Value.bool (decide_eq_true h48)) (o_move (v := (.int .i64 id)) rfl ?_)
          refine s_on 63 rfl (congrArg Value.bool (decide_eq_true h48)) (o_callf (vs := #[(.pointer none), (.int .i64 id)]) ca66 rfl (args2 rfl rfl) (settled_nil (h := id) hH50.all ) ?_)
          rintro _ w54 ⟨rfl, hX52⟩
          refine ⟨_, rfl, ?_⟩
          have hH53 := hX52.of_all
          refine s_on 63 rfl (congrArg Value.bool (decide_eq_true h48)) (o_lenS Try.underlying54 rfl (sl_nil (L := []) 1) ?_)
          refine s_on 63 rfl (congrArg Value.bool (decide_eq_true h48)) (o_eql (a := ((0 : Nat) : Int)) (b := 0) rfl rfl ?_)
          refine s_op (o_pick_t (u := (.bool (decide (((0 : Nat) : Int) = 0)))) ((rfl : _ = _).trans (congrArg Value.bool (decide_eq_true h48))) rfl ?_)
          refine s_op (o_move (v := (.bool (decide (((0 : Nat) : Int) = 0)))) rfl ?_)
          refine s_on 70 rfl (congrArg Value.bool (decide_eq_true h48)) (o_move (v := (.pointer none)) rfl ?_)
          refine s_on 70 rfl (congrArg Value.bool (decide_eq_true h48)) (o_move (v := (.int .i64 id)) rfl ?_)
          refine s_on 70 rfl (congrArg Value.bool (decide_eq_true h48)) (o_buildSlice (ps := #[(0, (.int .i64 id))]) (cells := #[(.int .i64 id)]) Try.underlying54 ti3 (by decide) (parts1 rfl) (by kernel_rfl) hH53 fun b55 w56 hH57 => ?_)
          refine s_on 70 rfl (congrArg Value.bool (decide_eq_true h48)) (o_callf (vs := #[(.pointer none), (.slice (some ⟨b55, 0, none⟩) 1 1)]) ca67 rfl (args2 rfl rfl) (drop_nil (ids := [id]) hH57.all ((sl_lit (f := iV) (l := [id]) rfl rfl (by simp)).mono (seg_sub 0 rfl))) ?_)
          rintro _ w60 ⟨rfl, hX58⟩
          refine ⟨_, rfl, ?_⟩
          have hH59 := hX58.of_all
          refine s_on 70 rfl (congrArg Value.bool (decide_eq_true h48)) (o_eql (a := 0) (b := 0) rfl rfl ?_)
          refine s_op (o_pick_t (u := (.bool (decide ((0 : Int) = (0 : Int))))) ((rfl : _ = _).trans (congrArg Value.bool (decide_eq_true h48))) rfl ?_)
          refine s_op (o_move (v := (.bool (decide ((0 : Int) = (0 : Int))))) rfl ?_)
          refine s_on 77 rfl (congrArg Value.bool (decide_eq_true h47)) (o_move (v := (.int .i64 0)) rfl ?_)
          refine s_on 77 rfl (congrArg Value.bool (decide_eq_true h47)) (o_eql (a := 0) (b := 0) rfl rfl ?_)
          refine s_op (o_pick_t (u := (.bool (decide ((0 : Int) = (0 : Int))))) ((rfl : _ = _).trans (congrArg Value.bool (decide_eq_true h47))) rfl ?_)
          refine s_op (o_move (v := (.bool (decide ((0 : Int) = (0 : Int))))) rfl ?_)
          refine s_on 81 rfl (congrArg Value.bool (decide_eq_true h47)) (o_move (v := (.bool false)) rfl ?_)
          refine s_on 81 rfl (congrArg Value.bool (decide_eq_true h47)) (o_not rfl ?_)
          refine s_op (o_pick_t (u := (.bool true)) ((rfl : _ = _).trans (congrArg Value.bool (decide_eq_true h47))) rfl ?_)
          refine s_op (o_move (v := (.bool true)) rfl ?_)
          refine s_on 85 rfl rfl (o_callf (vs := #[]) ca16 rfl (args0) (awake17_c hH59.all ) ?_)
          rintro _ w63 ⟨rfl, hX61⟩
          refine ⟨_, rfl, ?_⟩
          have hH62 := hX61.of_all
          refine s_op (o_pick_t (u := (.bool true)) rfl rfl ?_)
          refine s_op (o_assign (v := (.bool true)) rfl ?_)
          refine s_nil ?_
          refine t_norm (hK39 _ _ ?_)
          refine wp_ret ?_
          refine c_ret1 Try.results14  (v := (.bool true)) rfl ?_
          have hH64 : Has E w63 [R] := (hH62.front 5 rfl).first 1 rfl
          exact ⟨rfl, hH64⟩
        · -- not: ((0 : Nat) : Int) = 0
          first | exact absurd rfl h48 | exact absurd h48 (by decide) | exact absurd (by first | rfl | decide | (simp; done)) h48
      · -- not: (0 : Int) = (0 : Int)
        first | exact absurd rfl h47 | exact absurd h47 (by decide) | exact absurd (by first | rfl | decide | (simp; done)) h47
    · -- not: (1 : Int) = (1 : Int)
      first | exact absurd rfl h46 | exact absurd h46 (by decide) | exact absurd (by first | rfl | decide | (simp; done)) h46
end Go.Q
namespace Go.Q
section
variable {H : Type} {enc : TypeId × Value → H} {P : Program} {w : World} {t e : TypeId} {cs : List Value}
/-- These cells read as a value of the type. -/
def Rd (enc : TypeId × Value → H) (P : Program) (w : World) (t : TypeId) (cs : List Value) : Prop := ∃ fuel x, DataW.trod enc P w 0 (fun _ => true) true fuel t cs = some x
theorem rd_of {v : Value} {d : DataW H} {ps : List MemPlace} (h : DataW.Trod enc P w 0 (fun _ => true) true t v d ps) : Rd enc P w t v.cells.toList := ⟨h.choose, _, h.choose_spec⟩
theorem rd_int {k : IntKind} (ht : P.underlying t = some (.int k)) (h : Rd enc P w t cs) : ∃ n, cs = [.int k n] ∧ (Lit.int k n).wf = true := by
  obtain ⟨f, x, h⟩ := h
  obtain ⟨n, h1, _, h2⟩ := DataW.trod_int ht h
  exact ⟨n, h1, h2⟩
theorem rd_i64 (ht : P.underlying t = some (.int .i64)) (h : Rd enc P w t cs) : ∃ n, cs = [iV n] ∧ (-9223372036854775808 : Int) ≤ n ∧ n ≤ 9223372036854775807 := by
  obtain ⟨n, h1, h2⟩ := rd_int ht h
  exact ⟨n, h1, wf_i64 h2⟩
theorem rd_string (ht : P.underlying t = some .string) (h : Rd enc P w t cs) : ∃ l : List UInt8, cs = [S l] ∧ l.length ≤ 9223372036854775807 := by
  obtain ⟨f, x, h⟩ := h
  obtain ⟨s, h1, _, h2⟩ := DataW.trod_string ht h
  exact ⟨s.data.toList, by rw [h1, S_of], by rw [show maxLen = 9223372036854775807 from rfl] at h2; exact h2⟩
theorem rd_bool (ht : P.underlying t = some .bool) (h : Rd enc P w t cs) : ∃ b, cs = [.bool b] := by
  obtain ⟨f, x, h⟩ := h
  cases f with
  | zero => simp [DataW.trod] at h
  | succ m =>
    unfold DataW.trod at h
    rw [ht] at h
    split at h <;> simp_all
theorem rd_struct {fs : Array Field} (ht : P.underlying t = some (.struct fs)) (h : Rd enc P w t cs) :
    cs.length = P.cellsOf t ∧ ∀ (i : Nat) (f : Field), fs[i]? = some f → Rd enc P w f.type ((cs.drop f.offset).take (P.cellsOf f.type)) := by
  obtain ⟨f, x, h⟩ := h
  obtain ⟨xs, n, _, _, h1, h2, h3⟩ := DataW.trod_struct ht h
  refine ⟨h1, fun i f hf => ?_⟩
  have hi : i < xs.length := by rw [h2]; exact (Array.getElem?_eq_some_iff.1 hf).1
  exact ⟨n, xs[i], by rw [h3 i f hf, List.getElem?_eq_getElem hi]⟩
theorem rd_field {fs : Array Field} {i k : Nat} {f : Field} {T : TypeId} {ds : List Value} (hf : ∀ (i : Nat) (f : Field), fs[i]? = some f → Rd enc P w f.type ((cs.drop f.offset).take (P.cellsOf f.type)))
    (h : fs[i]? = some f) (hT : f.type = T) (hc : P.cellsOf T = k) (hd : (cs.drop f.offset).take k = ds) : Rd enc P w T ds := by
  have g := hf i f h
  rw [hT, hc, hd] at g
  exact g
theorem rd_slice (ht : P.underlying t = some (.slice e)) (h : Rd enc P w t cs) :
    cs = [.slice none 0 0] ∨ ∃ a len cap, cs = [.slice (some a) len cap] ∧ len ≤ cap ∧ cap ≤ 9223372036854775807 ∧
      ∀ i, i < len → ∃ r : List Value, r.length = P.cellsOf e ∧ Rd enc P w e r ∧ ∀ j, j < P.cellsOf e → w.cell? (a.add (i * P.cellsOf e + j)) = r[j]? := by
  obtain ⟨f, x, h⟩ := h
  rcases DataW.trod_slice ht h with ⟨h, _⟩ | ⟨a, len, cap, elems, rest, n, _, h1, _, _, h2, h3, h4, h5, _⟩
  · exact .inl h
  · refine .inr ⟨a, len, cap, h1, h2, by simpa [maxLen] using h3, fun i hi => ?_⟩
    have hb := h5 i hi
    rw [List.getElem?_eq_getElem (by omega)] at hb
    obtain ⟨r, hr, hd⟩ := Option.bind_eq_some_iff.1 hb
    obtain ⟨_, g1, g2⟩ := World.cells?_some hr
    refine ⟨r, g1, ⟨n, _, hd⟩, fun j hj => ?_⟩
    rw [← g2 j hj, Addr.add_add]
/-- A row, by how its elements read. -/
theorem rd_rows {α : Type} {f : α → List Value} {Good : α → Prop} {sz : Nat} (ht : P.underlying t = some (.slice e)) (hc : P.cellsOf e = sz) (h0 : 0 < sz) (hf : ∀ a, (f a).length = sz)
    (each : ∀ r, Rd enc P w e r → ∃ a, r = f a ∧ Good a) (h : Rd enc P w t cs) : ∃ (v : Value) (l : List α), cs = [v] ∧ Sl [Hp.of w] sz v l.length (l.flatMap f) ∧ ∀ a ∈ l, Good a := by
  subst hc
  rcases rd_slice ht h with rfl | ⟨a, len, cap, rfl, h1, h2, h3⟩
  · exact ⟨_, [], rfl, ⟨none, 0, rfl, Nat.le_refl _, by omega, by simp, fun g => by simp at g⟩, fun a ha => by cases ha⟩
  · have key : ∀ k, k ≤ len → ∃ l : List α, l.length = k ∧ (∀ a ∈ l, Good a) ∧ ∀ i v, (l.flatMap f)[i]? = some v → w.cell? (a.add i) = some v := by
      intro k
      induction k with
      | zero => intro _; exact ⟨[], rfl, fun a ha => (by cases ha), fun i v hv => by simp at hv⟩
      | succ k ih =>
        intro hk
        obtain ⟨l, hl, hg, hcell⟩ := ih (by omega)
        obtain ⟨r, hr, hd, hrc⟩ := h3 k (by omega)
        obtain ⟨y, rfl, hy⟩ := each r hd
        refine ⟨l ++ [y], by simp [hl], fun a ha => ?_, fun i v hv => ?_⟩
        · rcases List.mem_append.1 ha with g | g
          · exact hg a g
          · rw [List.mem_singleton.1 g]; exact hy
        · rw [List.flatMap_append, List.flatMap_cons, List.flatMap_nil, List.append_nil] at hv
          have hlen := flat_len hf l
          rcases Nat.lt_or_ge i (l.flatMap f).length with g | g
          · rw [List.getElem?_append_left g] at hv; exact hcell i v hv
          · rw [List.getElem?_append_right g] at hv
            have hj : i - (l.flatMap f).length < P.cellsOf e := by rw [← hr]; exact (List.getElem?_eq_some_iff.1 hv).1
            have := hrc (i - (l.flatMap f).length) hj
            rw [hv] at this
            rw [← this]; congr 2
            rw [hlen, hl] at g hj ⊢; omega
    obtain ⟨l, hl, hg, hcell⟩ := key len (Nat.le_refl _)
    refine ⟨_, l, rfl, ⟨some a, cap, by rw [hl], by omega, h2, flat_len hf l, fun g => ?_⟩, hg⟩
    obtain ⟨b, off, rfl, hc⟩ := cells_row (w := w) (x := a) (vs := l.flatMap f) (by rw [flat_len hf l]; exact Nat.mul_pos g h0) hcell
    exact ⟨b, off, rfl, hc⟩
theorem flat_one {α : Type} (f : α → Value) : ∀ l : List α, l.flatMap (fun a => [f a]) = l.map f
  | [] => rfl
  | a :: l => by rw [List.flatMap_cons, flat_one f l]; rfl
theorem rd_row1 {α : Type} {f : α → Value} {Good : α → Prop} (ht : P.underlying t = some (.slice e)) (hc : P.cellsOf e = 1)
    (each : ∀ r, Rd enc P w e r → ∃ a, r = [f a] ∧ Good a) (h : Rd enc P w t cs) : ∃ (v : Value) (l : List α), cs = [v] ∧ Sl [Hp.of w] 1 v l.length (l.map f) ∧ ∀ a ∈ l, Good a := by
  obtain ⟨v, l, h1, h2, h3⟩ := rd_rows (f := fun a => [f a]) ht hc (by omega) (fun _ => rfl) each h
  exact ⟨v, l, h1, by rw [flat_one] at h2; exact h2, h3⟩
/-- bounds of an int -/
def I64 (n : Int) : Prop := -9223372036854775808 ≤ n ∧ n ≤ 9223372036854775807
theorem rd_ints (ht : P.underlying t = some (.slice e)) (he : P.underlying e = some (.int .i64)) (hc : P.cellsOf e = 1) (h : Rd enc P w t cs) : ∃ (v : Value) (l : List Int), cs = [v] ∧ Ints [Hp.of w] v l ∧ ∀ a ∈ l, I64 a :=
  rd_row1 ht hc (fun r hr => rd_i64 he hr) h
theorem rd_strings (ht : P.underlying t = some (.slice e)) (he : P.underlying e = some .string) (hc : P.cellsOf e = 1) (h : Rd enc P w t cs) : ∃ (v : Value) (l : List (List UInt8)), cs = [v] ∧ Sl [Hp.of w] 1 v l.length (l.map S) ∧ ∀ a ∈ l, a.length ≤ 9223372036854775807 :=
  rd_row1 ht hc (fun r hr => rd_string he hr) h
/-- a value of a type of one cell is its cell -/
theorem val_one {r : Reach} {b0 : Nat} {v u : Value} (hn : match P.underlying t with | some (.struct _) => False | some (.array _ _) => False | _ => True) (hval : Value.okWide P w r b0 t v) (h : v.cells.toList = [u]) : v = u := by
  cases v with
  | agg c =>
    unfold Value.okWide at hval
    cases hu : P.underlying t with
    | none => rw [hu] at hval; simp [Cell.okWide, Cell.ok, hu] at hval
    | some d => rw [hu] at hn hval; cases d <;> first | exact hn.elim | (simp [Cell.okWide, Cell.ok, hu] at hval)
  | _ => simpa [Value.cells] using h
end
end Go.Q
namespace Go.Q
open Go.Proofs
set_option linter.unusedVariables false
set_option maxRecDepth 100000
attribute [local irreducible] wpList OK Code.wp
theorem rd_rec {H : Type} {enc : TypeId × Value → H} {w : World} {cs : List Value} (h : Rd enc Try.prog w 32 cs) : ∃ a : Rec, cs = recC a ∧ True := by
  obtain ⟨hl, hf⟩ := rd_struct Try.underlying32 h
  have hl : cs.length = 11 := hl.trans (by kernel_rfl)
  obtain ⟨c0, c1, c2, c3, c4, c5, c6, c7, c8, c9, c10, rfl⟩ : ∃ c0 c1 c2 c3 c4 c5 c6 c7 c8 c9 c10, cs = [c0, c1, c2, c3, c4, c5, c6, c7, c8, c9, c10] := by
    match cs, hl with
    | [c0, c1, c2, c3, c4, c5, c6, c7, c8, c9, c10], _ => exact ⟨c0, c1, c2, c3, c4, c5, c6, c7, c8, c9, c10, rfl⟩
  have f0_6 : Rd enc Try.prog w 3 [c0] := rd_field (i := 0) (k := 1) hf rfl rfl (by kernel_rfl) rfl
  obtain ⟨n0, e0, b0⟩ := rd_i64 Try.underlying3 f0_6
  obtain rfl := (List.cons.inj e0).1
  have f1_9 : Rd enc Try.prog w 3 [c1] := rd_field (i := 1) (k := 1) hf rfl rfl (by kernel_rfl) rfl
  obtain ⟨n1, e1, b1⟩ := rd_i64 Try.underlying3 f1_9
  obtain rfl := (List.cons.inj e1).1
  have f2_12 : Rd enc Try.prog w 3 [c2] := rd_field (i := 2) (k := 1) hf rfl rfl (by kernel_rfl) rfl
  obtain ⟨n2, e2, b2⟩ := rd_i64 Try.underlying3 f2_12
  obtain rfl := (List.cons.inj e2).1
  have f3_15 : Rd enc Try.prog w 3 [c3] := rd_field (i := 3) (k := 1) hf rfl rfl (by kernel_rfl) rfl
  obtain ⟨n3, e3, b3⟩ := rd_i64 Try.underlying3 f3_15
  obtain rfl := (List.cons.inj e3).1
  have f4_18 : Rd enc Try.prog w 3 [c4] := rd_field (i := 4) (k := 1) hf rfl rfl (by kernel_rfl) rfl
  obtain ⟨n4, e4, b4⟩ := rd_i64 Try.underlying3 f4_18
  obtain rfl := (List.cons.inj e4).1
  have f5_21 : Rd enc Try.prog w 9 [c5] := rd_field (i := 5) (k := 1) hf rfl rfl (by kernel_rfl) rfl
  obtain ⟨n5, e5, b5⟩ := rd_string Try.underlying9 f5_21
  obtain rfl := (List.cons.inj e5).1
  have f6_24 : Rd enc Try.prog w 30 [c6, c7] := rd_field (i := 6) (k := 2) hf rfl rfl (by kernel_rfl) rfl
  obtain ⟨_, g6_25⟩ := rd_struct Try.underlying30 f6_24
  have f6_26 : Rd enc Try.prog w 4 [c6] := rd_field (i := 0) (k := 1) g6_25 rfl rfl (by kernel_rfl) rfl
  obtain ⟨n6, e6⟩ := rd_bool Try.underlying4 f6_26
  obtain rfl := (List.cons.inj e6).1
  have f7_29 : Rd enc Try.prog w 9 [c7] := rd_field (i := 1) (k := 1) g6_25 rfl rfl (by kernel_rfl) rfl
  obtain ⟨n7, e7, b7⟩ := rd_string Try.underlying9 f7_29
  obtain rfl := (List.cons.inj e7).1
  have f8_32 : Rd enc Try.prog w 30 [c8, c9] := rd_field (i := 7) (k := 2) hf rfl rfl (by kernel_rfl) rfl
  obtain ⟨_, g8_33⟩ := rd_struct Try.underlying30 f8_32
  have f8_34 : Rd enc Try.prog w 4 [c8] := rd_field (i := 0) (k := 1) g8_33 rfl rfl (by kernel_rfl) rfl
  obtain ⟨n8, e8⟩ := rd_bool Try.underlying4 f8_34
  obtain rfl := (List.cons.inj e8).1
  have f9_37 : Rd enc Try.prog w 9 [c9] := rd_field (i := 1) (k := 1) g8_33 rfl rfl (by kernel_rfl) rfl
  obtain ⟨n9, e9, b9⟩ := rd_string Try.underlying9 f9_37
  obtain rfl := (List.cons.inj e9).1
  have f10_40 : Rd enc Try.prog w 3 [c10] := rd_field (i := 8) (k := 1) hf rfl rfl (by kernel_rfl) rfl
  obtain ⟨n10, e10, b10⟩ := rd_i64 Try.underlying3 f10_40
  obtain rfl := (List.cons.inj e10).1
  exact ⟨⟨n0, n1, n2, n3, n4, n5, n6, n7, n8, n9, n10⟩, rfl, trivial⟩
theorem rd_recs {H : Type} {enc : TypeId × Value → H} {w : World} {cs : List Value} (h : Rd enc Try.prog w 22 cs) : ∃ (v : Value) (l : List Rec), cs = [v] ∧ Sl [Hp.of w] 11 v l.length (l.flatMap recC) ∧ ∀ a ∈ l, True :=
  rd_rows Try.underlying22 (by kernel_rfl) (by decide) recC_len (fun r hr => rd_rec hr) h
end Go.Q
