/-
  Parts of a walk: what functions of the program compute, each told by a theorem (QETx5, QETx6, QETxI, QETxJ, QETxB, QY, QERdTx).
-/
import Derived.Test.YtcffibbdbalmjaaB3
import Derived.ChangeArms
import Derived.WideShapes
import Derived.DataElems
set_option linter.unusedVariables false
set_option linter.unusedSimpArgs false
namespace Go.Q
open Go.Proofs
set_option linter.unusedVariables false
set_option maxRecDepth 100000
attribute [local irreducible] wpList OK Code.wp
def TtAt (b : Nat) (sg : List Hp) (v : TxnS) : Prop := ∃ (x0 : Nat) (h0 : List Hp), sg = ([Hp.one b (.cells #[(.map (some x0))] 125 (0, 0))] ++ h0) ∧ (DirAt iV KnAt x0 h0 v.m)
def TtRd (R : List Hp) (b : Nat) (v : TxnS) : Prop := ∃ (x0 : Nat), CellsAt R b 0 [(.map (some x0))] ∧ (DirRd iV KnRd R x0 v.m)
theorem TtAt.mk {b : Nat} {v : TxnS} {x0 : Nat} {h0 : List Hp} (f0 : DirAt iV KnAt x0 h0 v.m) : TtAt b (([Hp.one b (.cells #[(.map (some x0))] 125 (0, 0))] ++ h0)) v := ⟨_, _, rfl, f0⟩
theorem TtRd.mk {R : List Hp} {b : Nat} {v : TxnS} {x0 : Nat} (hc : CellsAt R b 0 [(.map (some x0))]) (f0 : DirRd iV KnRd R x0 v.m) : TtRd R b v := ⟨_, hc, f0⟩
theorem TtRd.mono {R R' : List Hp} {b : Nat} {v : TxnS} (h : TtRd R b v) (hs : R ⊆ R') : TtRd R' b v := by
  obtain ⟨x0, hc, f0⟩ := h
  exact TtRd.mk (hc.mono hs) (DirRd.mono (Rd := KnRd) KnRd.mono f0 hs)
theorem TtAt.rd {b : Nat} {sg : List Hp} {v : TxnS} (h : TtAt b sg v) : TtRd sg b v := by
  obtain ⟨x0, h0, rfl, f0⟩ := h
  exact TtRd.mk ((CellsAt.one rfl).mono (fun _ g_ => List.mem_append_left _ g_)) (DirRd.mono (Rd := KnRd) KnRd.mono (DirAt.rd (Rd := KnRd) KnRd.mono KnAt.rd f0) (fun _ g_ => List.mem_append_right _ (g_)))
set_option maxHeartbeats 4000000 in
theorem tnew_c {E w : World} {R : List Hp}   (hH : Has E w [R]) :
    Calls Try.prog 17 #[] w fun e w' => ∃ (b1' : Nat) (sg2' : List Hp), e = .returned (.pointer (some ⟨b1', 0, none⟩)) ∧ (TtAt b1' sg2' (⟨[]⟩ : TxnS)) ∧ Has E w' [sg2', R] := by
  refine c_enter (args := []) Try.func17 rfl Try.ntmps17 (by simp) ?_
  refine wp_seq_k fun K1 hK1 => ?_
  refine c_region ?_
  refine s_op (o_assign (v := (.pointer none)) rfl ?_)
  refine s_nil ?_
  refine t_norm (hK1 _ _ ?_)
  refine wp_seq_k fun K2 hK2 => ?_
  refine c_region ?_
  refine s_op (o_makeMap hH fun m3 w4 hH5 => ?_)
  refine s_op (o_sight (v := (.agg #[(.map (some m3))])) (fun _ => by kernel_rfl) ?_)
  refine s_op (o_box (cs := #[(.map (some m3))]) rfl rfl hH5 fun b6 w7 hH8 => ?_)
  refine s_op (o_assign (v := (.pointer (some ⟨b6, 0, none⟩))) rfl ?_)
  refine s_nil ?_
  refine t_norm (hK2 _ _ ?_)
  refine wp_ret ?_
  refine c_ret1 Try.results17  (v := (.pointer (some ⟨b6, 0, none⟩))) rfl ?_
  have hd9 : DirAt iV KnAt m3 [Hp.one m3 (.map #[] 0)] [] := DirAt.new
  have hH10 : Has E w7 [([Hp.one b6 (.cells #[(.map (some m3))] 125 (0, 0))] ++ [Hp.one m3 (.map #[] 0)]), R] := Has.cl2 ((hH8.front 1 rfl).front 1 rfl)
  have hd11 : TtAt b6 ([Hp.one b6 (.cells #[(.map (some m3))] 125 (0, 0))] ++ [Hp.one m3 (.map #[] 0)]) (⟨([] : List (Int × Kn))⟩ : TxnS) := TtAt.mk (v := (⟨([] : List (Int × Kn))⟩ : TxnS)) hd9
  have q12 : (⟨[]⟩ : TxnS) = (⟨([] : List (Int × Kn))⟩ : TxnS) := by rfl
  exact ⟨_, _, rfl, (by rw [q12]; exact hd11), hH10⟩
set_option maxHeartbeats 4000000 in
theorem one_c {E w : World} {R : List Hp} {tb : Nat} {sg_tb : List Hp} {v : TxnS} {home : Int} {r : Rec}  (hH : Has E w [sg_tb, R]) (h_tb : TtAt tb sg_tb v) (hsz : szK v.m 1000) :
    Calls Try.prog 68 #[(.pointer (some ⟨tb, 0, none⟩)), (.int .i64 home), (.agg #[(.int .i64 r.kind), (.int .i64 r.gsn), (.int .i64 r.txn), (.int .i64 r.prev), (.int .i64 r.page), (S r.key), (.bool r.bh), (S r.bv), (.bool r.ah), (S r.av), (.int .i64 r.undo)])] w fun e w' => ∃ (sg_tb' : List Hp), e = .returned (.int .i64 ((oneS v.m home r).2)) ∧ (TtAt tb sg_tb' (⟨(oneS v.m home r).1⟩ : TxnS)) ∧ Has E w' [sg_tb', R] := by
  obtain ⟨x1, s2, rfl, f3⟩ := h_tb
  have hH4 : Has E w [[Hp.one tb (.cells #[(.map (some x1))] 125 (0, 0))], s2, R] := Has.op2 hH
  refine c_enter (args := [(.pointer (some ⟨tb, 0, none⟩)), (.int .i64 home), (.agg #[(.int .i64 r.kind), (.int .i64 r.gsn), (.int .i64 r.txn), (.int .i64 r.prev), (.int .i64 r.page), (S r.key), (.bool r.bh), (S r.bv), (.bool r.ah), (S r.av), (.int .i64 r.undo)])]) Try.func68 rfl Try.ntmps68 (by simp) ?_
  refine wp_seq_k fun K5 hK5 => ?_
  refine c_region ?_
  refine s_op (o_box (cs := #[(.int .i64 r.kind), (.int .i64 r.gsn), (.int .i64 r.txn), (.int .i64 r.prev), (.int .i64 r.page), (S r.key), (.bool r.bh), (S r.bv), (.bool r.ah), (S r.av), (.int .i64 r.undo)]) rfl rfl hH4 fun b6 w7 hH8 => ?_)
  refine s_op (o_assign (v := (.int .i64 0)) rfl ?_)
  refine s_nil ?_
  refine t_norm (hK5 _ _ ?_)
  refine wp_seq_k fun K9 hK9 => ?_
  refine wp_seq_k fun K10 hK10 => ?_
  refine c_region ?_
  refine s_op (o_loadN (cs := [(.int .i64 r.kind), (.int .i64 r.gsn), (.int .i64 r.txn), (.int .i64 r.prev), (.int .i64 r.page), (S r.key), (.bool r.bh), (S r.bv), (.bool r.ah), (S r.av), (.int .i64 r.undo)]) Try.underlying32 rfl ti32 rfl hH8 (seg_sub 0 rfl) (CellsAt.one rfl) ?_)
  refine s_op (o_buildSlice (ps := #[(0, (.agg #[(.int .i64 r.kind), (.int .i64 r.gsn), (.int .i64 r.txn), (.int .i64 r.prev), (.int .i64 r.page), (S r.key), (.bool r.bh), (S r.bv), (.bool r.ah), (S r.av), (.int .i64 r.undo)]))]) (cells := #[(.int .i64 r.kind), (.int .i64 r.gsn), (.int .i64 r.txn), (.int .i64 r.prev), (.int .i64 r.page), (S r.key), (.bool r.bh), (S r.bv), (.bool r.ah), (S r.av), (.int .i64 r.undo)]) Try.underlying22 ti32 (by decide) (parts1 rfl) (by kernel_rfl) hH8 fun b11 w12 hH13 => ?_)
  refine s_op (o_callf (vs := #[(.slice (some ⟨b11, 0, none⟩) 1 1)]) ca114 rfl (args1 rfl) (rights_c (l := [r]) hH13.all ((sl_litF (f := recC) (l := [r]) recC_len rfl rfl (by simp)).mono (seg_sub 0 rfl))) ?_)
  rintro _ w16 ⟨rfl, hX14⟩
  refine ⟨_, rfl, ?_⟩
  have hH15 := hX14.of_all
  refine s_op (o_not rfl ?_)
  refine s_nil ?_
  refine t_norm (hK10 _ _ ?_)
  refine c_condb rfl (fun h17 => ?_) (fun h17 => ?_)
  · -- !([r].all rightR)
    have h17_n : ([r].all rightR) = false := by simpa using h17
    refine wp_seq_k fun K18 hK18 => ?_
    refine c_region ?_
    refine s_op (o_assign (v := (.int .i64 1)) rfl ?_)
    refine s_nil ?_
    refine t_norm (hK18 _ _ ?_)
    refine wp_ret ?_
    refine t_ret (c_ret1 Try.results68  (v := (.int .i64 1)) rfl ?_)
    have q19 : (oneS v.m home r).2 = 1 := by simp only [List.all_cons, List.all_nil, Bool.and_true, Bool.not_eq_true', Bool.not_eq_false'] at h17; unfold oneS newK; simp [putK_two, h17, h17_n]
    have hH20 : Has E w16 [([Hp.one tb (.cells #[(.map (some x1))] 125 (0, 0))] ++ s2), [Hp.one b11 (.cells #[(.int .i64 r.kind), (.int .i64 r.gsn), (.int .i64 r.txn), (.int .i64 r.prev), (.int .i64 r.page), (S r.key), (.bool r.bh), (S r.bv), (.bool r.ah), (S r.av), (.int .i64 r.undo)] 32 (0, 0))], [Hp.one b6 (.cells #[(.int .i64 r.kind), (.int .i64 r.gsn), (.int .i64 r.txn), (.int .i64 r.prev), (.int .i64 r.page), (S r.key), (.bool r.bh), (S r.bv), (.bool r.ah), (S r.av), (.int .i64 r.undo)] 32 (0, 0))], R] := Has.cl2 ((hH15.front 3 rfl).front 3 rfl)
    have hd21 : TtAt tb ([Hp.one tb (.cells #[(.map (some x1))] 125 (0, 0))] ++ s2) v := TtAt.mk (v := v) f3
    have q22 : (⟨(oneS v.m home r).1⟩ : TxnS) = v := by simp only [List.all_cons, List.all_nil, Bool.and_true, Bool.not_eq_true', Bool.not_eq_false'] at h17; unfold oneS newK; simp [putK_two, h17, h17_n]
    have hH23 : Has E w16 [([Hp.one tb (.cells #[(.map (some x1))] 125 (0, 0))] ++ s2), R] := ((hH20.front 3 rfl).front 1 rfl).first 2 rfl
    exact ⟨_, by rw [q19], (by rw [q22]; exact hd21), hH23⟩
  · -- not: !([r].all rightR)
    have h17_n : ([r].all rightR) = true := by simpa using h17
    refine wp_skip ?_
    refine t_norm (hK9 _ _ ?_)
    refine wp_seq_k fun K24 hK24 => ?_
    refine Rest.region mixed (by kernel_rfl) ?_
    have hH25 : Has E { w16 with drawn := w16.drawn + 1 } [[Hp.one b11 (.cells #[(.int .i64 r.kind), (.int .i64 r.gsn), (.int .i64 r.txn), (.int .i64 r.prev), (.int .i64 r.page), (S r.key), (.bool r.bh), (S r.bv), (.bool r.ah), (S r.av), (.int .i64 r.undo)] 32 (0, 0))], [Hp.one b6 (.cells #[(.int .i64 r.kind), (.int .i64 r.gsn), (.int .i64 r.txn), (.int .i64 r.prev), (.int .i64 r.page), (S r.key), (.bool r.bh), (S r.bv), (.bool r.ah), (S r.av), (.int .i64 r.undo)] 32 (0, 0))], [Hp.one tb (.cells #[(.map (some x1))] 125 (0, 0))], s2, R] := Has0.drew hH15 _
    refine Rest.phaseA (fun w_ => Has E w_ [[Hp.one b6 (.cells #[(.int .i64 r.kind), (.int .i64 r.gsn), (.int .i64 r.txn), (.int .i64 r.prev), (.int .i64 r.page), (S r.key), (.bool r.bh), (S r.bv), (.bool r.ah), (S r.av), (.int .i64 r.undo)] 32 (0, 0))], [Hp.one tb (.cells #[(.map (some x1))] 125 (0, 0))]]) 0 6 6 rfl (by decide) (by kernel_rfl) ?_
    refine a_op 0 rfl (by kernel_rfl) (fun w_ h_ => o_move (v := (.pointer (some ⟨tb, 0, none⟩))) rfl ⟨rfl, rfl⟩) ?_
    refine a_op 1 rfl (by kernel_rfl) (fun w_ h_ => o_nilCheck rfl ⟨rfl, rfl⟩) ?_
    refine a_op 2 rfl (by kernel_rfl) (fun w_ h_ => o_fieldAddr (k := 0) (fun _ => by kernel_rfl) rfl ⟨rfl, rfl⟩) ?_
    refine a_op 3 rfl (by kernel_rfl) (fun w_ h_ => o_load1 (v := (.map (some x1))) Try.underlying123 rfl rfl h_ (seg_sub 1 rfl) (CellsAt.one rfl) ⟨rfl, rfl⟩) ?_
    refine a_op 4 rfl (by kernel_rfl) (fun w_ h_ => o_fieldAddr (k := 2) (fun _ => by kernel_rfl) rfl ⟨rfl, rfl⟩) ?_
    refine a_op 5 rfl (by kernel_rfl) (fun w_ h_ => o_load1 (v := (.int .i64 r.txn)) Try.underlying3 rfl rfl h_ (seg_sub 0 rfl) (CellsAt.one rfl) ⟨rfl, rfl⟩) ?_
    have hH26 : Has E { w16 with drawn := w16.drawn + 1 } [[Hp.one b6 (.cells #[(.int .i64 r.kind), (.int .i64 r.gsn), (.int .i64 r.txn), (.int .i64 r.prev), (.int .i64 r.page), (S r.key), (.bool r.bh), (S r.bv), (.bool r.ah), (S r.av), (.int .i64 r.undo)] 32 (0, 0))], [Hp.one tb (.cells #[(.map (some x1))] 125 (0, 0))]] := ((hH25.front 2 rfl).front 2 rfl).first 2 rfl
    refine a_done (by kernel_rfl) hH26 ?_
    refine r_op 6 rfl (by kernel_rfl) (o_dirOut (k := r.txn) Try.underlying123 (key_int Try.underlying3) ti127 rfl rfl f3 (hH25.front 3 rfl) (fun hN27 => ?_) (fun b29 v30 sx31 sr32 hS28 hx33 hh34 hH35 => ?_))
    · -- none
      refine r_op 7 rfl (by kernel_rfl) (o_assign (v := (.pointer none)) rfl ?_)
      refine Rest.done (by kernel_rfl) ?_
      refine t_norm (hK24 _ _ ?_)
      refine wp_seq_k fun K36 hK36 => ?_
      refine wp_block ?_
      refine wp_seq_k fun K37 hK37 => ?_
      refine c_region ?_
      refine s_op (o_fieldAddr (k := 0) (fun _ => by kernel_rfl) rfl ?_)
      refine s_op (o_load1 (v := (.int .i64 r.kind)) Try.underlying3 rfl rfl hH25 (seg_sub 1 rfl) (CellsAt.one rfl) ?_)
      refine s_op (o_eql (a := r.kind) (b := 1) rfl rfl ?_)
      refine s_op (o_move (v := (.bool (decide (r.kind = 1)))) rfl ?_)
      by_cases h38 : r.kind = 1
      · -- r.kind = 1
        refine s_on 23 rfl (congrArg Value.bool (decide_eq_true h38)) (o_move (v := (.pointer none)) rfl ?_)
        refine s_on 23 rfl (congrArg Value.bool (decide_eq_true h38)) (o_pnnil (p := none) Try.underlying127 rfl rfl ?_)
        refine s_op (o_pick_t (u := (.bool false)) ((rfl : _ = _).trans (congrArg Value.bool (decide_eq_true h38))) rfl ?_)
        refine s_op (o_assign (v := (.bool false)) rfl ?_)
        refine s_nil ?_
        refine t_norm (hK37 _ _ ?_)
        refine c_false rfl rfl ?_
        refine wp_seq_k fun K39 hK39 => ?_
        refine c_region ?_
        refine s_op (o_fieldAddr (k := 0) (fun _ => by kernel_rfl) rfl ?_)
        refine s_op (o_load1 (v := (.int .i64 r.kind)) Try.underlying3 rfl rfl hH25 (seg_sub 1 rfl) (CellsAt.one rfl) ?_)
        refine s_op (o_eql (a := r.kind) (b := 1) rfl rfl ?_)
        refine s_op (o_assign (v := (.bool (decide (r.kind = 1)))) rfl ?_)
        refine s_nil ?_
        refine t_norm (hK39 _ _ ?_)
        refine c_true rfl (decide_eq_true h38) ?_
        refine wp_seq_k fun K40 hK40 => ?_
        refine Rest.region mixed (by kernel_rfl) ?_
        have hH41 : Has E { { w16 with drawn := w16.drawn + 1 } with drawn := { w16 with drawn := w16.drawn + 1 }.drawn + 1 } [[Hp.one b11 (.cells #[(.int .i64 r.kind), (.int .i64 r.gsn), (.int .i64 r.txn), (.int .i64 r.prev), (.int .i64 r.page), (S r.key), (.bool r.bh), (S r.bv), (.bool r.ah), (S r.av), (.int .i64 r.undo)] 32 (0, 0))], [Hp.one b6 (.cells #[(.int .i64 r.kind), (.int .i64 r.gsn), (.int .i64 r.txn), (.int .i64 r.prev), (.int .i64 r.page), (S r.key), (.bool r.bh), (S r.bv), (.bool r.ah), (S r.av), (.int .i64 r.undo)] 32 (0, 0))], [Hp.one tb (.cells #[(.map (some x1))] 125 (0, 0))], s2, R] := Has0.drew hH25 _
        refine Rest.phaseA (fun w_ => Has E w_ [[Hp.one b6 (.cells #[(.int .i64 r.kind), (.int .i64 r.gsn), (.int .i64 r.txn), (.int .i64 r.prev), (.int .i64 r.page), (S r.key), (.bool r.bh), (S r.bv), (.bool r.ah), (S r.av), (.int .i64 r.undo)] 32 (0, 0))], [Hp.one tb (.cells #[(.map (some x1))] 125 (0, 0))]]) 0 16 16 rfl (by decide) (by kernel_rfl) ?_
        refine a_op 0 rfl (by kernel_rfl) (fun w_ h_ => o_move (v := (.pointer (some ⟨tb, 0, none⟩))) rfl ⟨rfl, rfl⟩) ?_
        refine a_op 1 rfl (by kernel_rfl) (fun w_ h_ => o_nilCheck rfl ⟨rfl, rfl⟩) ?_
        refine a_op 2 rfl (by kernel_rfl) (fun w_ h_ => o_fieldAddr (k := 0) (fun _ => by kernel_rfl) rfl ⟨rfl, rfl⟩) ?_
        refine a_op 3 rfl (by kernel_rfl) (fun w_ h_ => o_load1 (v := (.map (some x1))) Try.underlying123 rfl rfl h_ (seg_sub 1 rfl) (CellsAt.one rfl) ⟨rfl, rfl⟩) ?_
        refine a_op 4 rfl (by kernel_rfl) (fun w_ h_ => o_fieldAddr (k := 2) (fun _ => by kernel_rfl) rfl ⟨rfl, rfl⟩) ?_
        refine a_op 5 rfl (by kernel_rfl) (fun w_ h_ => o_load1 (v := (.int .i64 r.txn)) Try.underlying3 rfl rfl h_ (seg_sub 0 rfl) (CellsAt.one rfl) ⟨rfl, rfl⟩) ?_
        refine a_op 6 rfl (by kernel_rfl) (fun w_ h_ => o_fieldAddr (k := 2) (fun _ => by kernel_rfl) rfl ⟨rfl, rfl⟩) ?_
        refine a_op 7 rfl (by kernel_rfl) (fun w_ h_ => o_load1 (v := (.int .i64 r.txn)) Try.underlying3 rfl rfl h_ (seg_sub 0 rfl) (CellsAt.one rfl) ⟨rfl, rfl⟩) ?_
        refine a_op 8 rfl (by kernel_rfl) (fun w_ h_ => o_move (v := (.int .i64 home)) rfl ⟨rfl, rfl⟩) ?_
        refine a_op 9 rfl (by kernel_rfl) (fun w_ h_ => o_fieldAddr (k := 1) (fun _ => by kernel_rfl) rfl ⟨rfl, rfl⟩) ?_
        refine a_op 10 rfl (by kernel_rfl) (fun w_ h_ => o_load1 (v := (.int .i64 r.gsn)) Try.underlying3 rfl rfl h_ (seg_sub 0 rfl) (CellsAt.one rfl) ⟨rfl, rfl⟩) ?_
        refine a_op 11 rfl (by kernel_rfl) (fun w_ h_ => o_fieldAddr (k := 1) (fun _ => by kernel_rfl) rfl ⟨rfl, rfl⟩) ?_
        refine a_op 12 rfl (by kernel_rfl) (fun w_ h_ => o_load1 (v := (.int .i64 r.gsn)) Try.underlying3 rfl rfl h_ (seg_sub 0 rfl) (CellsAt.one rfl) ⟨rfl, rfl⟩) ?_
        refine a_op 13 rfl (by kernel_rfl) (fun w_ h_ => o_sight (v := (.agg #[(.int .i64 r.txn), (.int .i64 home), (.int .i64 r.gsn), (.int .i64 r.gsn), (.int .i64 1), (.slice none 0 0), (.slice none 0 0)])) (fun _ => by kernel_rfl) ⟨rfl, rfl⟩) ?_
        refine a_op 14 rfl (by kernel_rfl) (fun w_ h_ => o_sight (v := (.agg #[(.int .i64 r.txn), (.int .i64 home), (.int .i64 r.gsn), (.int .i64 r.gsn), (.int .i64 1), (.slice none 0 0), (.slice none 0 0)])) (fun _ => by kernel_rfl) ⟨rfl, rfl⟩) ?_
        have hH42 : Has E { { w16 with drawn := w16.drawn + 1 } with drawn := { w16 with drawn := w16.drawn + 1 }.drawn + 1 } [[Hp.one b6 (.cells #[(.int .i64 r.kind), (.int .i64 r.gsn), (.int .i64 r.txn), (.int .i64 r.prev), (.int .i64 r.page), (S r.key), (.bool r.bh), (S r.bv), (.bool r.ah), (S r.av), (.int .i64 r.undo)] 32 (0, 0))], [Hp.one tb (.cells #[(.map (some x1))] 125 (0, 0))]] := ((hH41.front 2 rfl).front 2 rfl).first 2 rfl
        refine a_w 15 rfl (by kernel_rfl) hH42 (o_box (cs := #[(.int .i64 r.txn), (.int .i64 home), (.int .i64 r.gsn), (.int .i64 r.gsn), (.int .i64 1), (.slice none 0 0), (.slice none 0 0)]) rfl rfl hH41 fun b43 w44 hH45 => ?_)
        have hH46 : Has E w44 [[Hp.one b6 (.cells #[(.int .i64 r.kind), (.int .i64 r.gsn), (.int .i64 r.txn), (.int .i64 r.prev), (.int .i64 r.page), (S r.key), (.bool r.bh), (S r.bv), (.bool r.ah), (S r.av), (.int .i64 r.undo)] 32 (0, 0))], [Hp.one tb (.cells #[(.map (some x1))] 125 (0, 0))]] := ((hH45.front 3 rfl).front 3 rfl).first 2 rfl
        refine a_done (by kernel_rfl) hH46 ?_
        have hH47 := Has.nil hH45
        have hH48 := Has.nil hH47
        have hH49 : Has E w44 [([Hp.one b43 (.cells #[(.int .i64 r.txn), (.int .i64 home), (.int .i64 r.gsn), (.int .i64 r.gsn), (.int .i64 1), (.slice none 0 0), (.slice none 0 0)] 130 (0, 0))] ++ ([] ++ [])), [Hp.one b11 (.cells #[(.int .i64 r.kind), (.int .i64 r.gsn), (.int .i64 r.txn), (.int .i64 r.prev), (.int .i64 r.page), (S r.key), (.bool r.bh), (S r.bv), (.bool r.ah), (S r.av), (.int .i64 r.undo)] 32 (0, 0))], [Hp.one b6 (.cells #[(.int .i64 r.kind), (.int .i64 r.gsn), (.int .i64 r.txn), (.int .i64 r.prev), (.int .i64 r.page), (S r.key), (.bool r.bh), (S r.bv), (.bool r.ah), (S r.av), (.int .i64 r.undo)] 32 (0, 0))], [Hp.one tb (.cells #[(.map (some x1))] 125 (0, 0))], s2, R] := Has.cl3 (hH48.front 2 rfl)
        have hd50 : KnAt b43 ([Hp.one b43 (.cells #[(.int .i64 r.txn), (.int .i64 home), (.int .i64 r.gsn), (.int .i64 r.gsn), (.int .i64 1), (.slice none 0 0), (.slice none 0 0)] 130 (0, 0))] ++ ([] ++ [])) (⟨r.txn, home, r.gsn, r.gsn, 1, ([] : List Rec), ([] : List (Int × Int))⟩ : Kn) := KnAt.mk (v := (⟨r.txn, home, r.gsn, r.gsn, 1, ([] : List Rec), ([] : List (Int × Int))⟩ : Kn)) (Own.nil 32 11) (Own.nil 39 2)
        refine r_eff 16 rfl (by kernel_rfl) (o_dirPut (k := r.txn) Try.underlying123 (key_int Try.underlying3) rfl rfl rfl f3 hN27 hd50 (hH49.front 4 rfl) fun sr51 w52 hh53 hH54 => ?_)
        refine Rest.done (by kernel_rfl) ?_
        refine t_norm (hK40 _ _ ?_)
        refine wp_seq_k fun K55 hK55 => ?_
        refine c_region ?_
        refine s_op (o_assign (v := (.int .i64 0)) rfl ?_)
        refine s_nil ?_
        refine t_norm (hK55 _ _ ?_)
        refine wp_ret ?_
        refine b_ret (t_ret (c_ret1 Try.results68  (v := (.int .i64 0)) rfl ?_))
        have q56 : (oneS v.m home r).2 = 0 := by simp only [List.all_cons, List.all_nil, Bool.and_true, Bool.not_eq_true', Bool.not_eq_false'] at h17; unfold oneS newK; simp [putK_two, hN27, h17, h17_n, h38]
        obtain ⟨sg57, hd58, hH59⟩ := DirHole.close hh53 hd50 ((hH54.front 1 rfl).front 1 rfl)
        have hd58 : DirAt iV KnAt x1 sg57 (putB (putB v.m r.txn (⟨r.txn, home, r.gsn, r.gsn, 1, ([] : List Rec), ([] : List (Int × Int))⟩ : Kn)) r.txn (⟨r.txn, home, r.gsn, r.gsn, 1, ([] : List Rec), ([] : List (Int × Int))⟩ : Kn)) := hd58
        have hH60 : Has E w52 [([Hp.one tb (.cells #[(.map (some x1))] 125 (0, 0))] ++ sg57), [Hp.one b11 (.cells #[(.int .i64 r.kind), (.int .i64 r.gsn), (.int .i64 r.txn), (.int .i64 r.prev), (.int .i64 r.page), (S r.key), (.bool r.bh), (S r.bv), (.bool r.ah), (S r.av), (.int .i64 r.undo)] 32 (0, 0))], [Hp.one b6 (.cells #[(.int .i64 r.kind), (.int .i64 r.gsn), (.int .i64 r.txn), (.int .i64 r.prev), (.int .i64 r.page), (S r.key), (.bool r.bh), (S r.bv), (.bool r.ah), (S r.av), (.int .i64 r.undo)] 32 (0, 0))], R] := Has.cl2 (hH59.front 3 rfl)
        have hd61 : TtAt tb ([Hp.one tb (.cells #[(.map (some x1))] 125 (0, 0))] ++ sg57) (⟨(putB (putB v.m r.txn (⟨r.txn, home, r.gsn, r.gsn, 1, ([] : List Rec), ([] : List (Int × Int))⟩ : Kn)) r.txn (⟨r.txn, home, r.gsn, r.gsn, 1, ([] : List Rec), ([] : List (Int × Int))⟩ : Kn))⟩ : TxnS) := TtAt.mk (v := (⟨(putB (putB v.m r.txn (⟨r.txn, home, r.gsn, r.gsn, 1, ([] : List Rec), ([] : List (Int × Int))⟩ : Kn)) r.txn (⟨r.txn, home, r.gsn, r.gsn, 1, ([] : List Rec), ([] : List (Int × Int))⟩ : Kn))⟩ : TxnS)) hd58
        have q62 : (⟨(oneS v.m home r).1⟩ : TxnS) = (⟨(putB (putB v.m r.txn (⟨r.txn, home, r.gsn, r.gsn, 1, ([] : List Rec), ([] : List (Int × Int))⟩ : Kn)) r.txn (⟨r.txn, home, r.gsn, r.gsn, 1, ([] : List Rec), ([] : List (Int × Int))⟩ : Kn))⟩ : TxnS) := by simp only [List.all_cons, List.all_nil, Bool.and_true, Bool.not_eq_true', Bool.not_eq_false'] at h17; unfold oneS newK; simp [putK_two, hN27, h17, h17_n, h38]
        have hH63 : Has E w52 [([Hp.one tb (.cells #[(.map (some x1))] 125 (0, 0))] ++ sg57), R] := ((hH60.front 3 rfl).front 1 rfl).first 2 rfl
        exact ⟨_, by rw [q56], (by rw [q62]; exact hd61), hH63⟩
      · -- not: r.kind = 1
        refine s_off (b' := false) 23 rfl (congrArg Value.bool (decide_eq_false h38)) rfl ?_
        refine s_off (b' := false) 23 rfl (congrArg Value.bool (decide_eq_false h38)) rfl ?_
        refine s_op (o_pick_f (u := (.bool false)) ((rfl : _ = _).trans (congrArg Value.bool (decide_eq_false h38))) rfl ?_)
        refine s_op (o_assign (v := (.bool false)) rfl ?_)
        refine s_nil ?_
        refine t_norm (hK37 _ _ ?_)
        refine c_false rfl rfl ?_
        refine wp_seq_k fun K64 hK64 => ?_
        refine c_region ?_
        refine s_op (o_fieldAddr (k := 0) (fun _ => by kernel_rfl) rfl ?_)
        refine s_op (o_load1 (v := (.int .i64 r.kind)) Try.underlying3 rfl rfl hH25 (seg_sub 1 rfl) (CellsAt.one rfl) ?_)
        refine s_op (o_eql (a := r.kind) (b := 1) rfl rfl ?_)
        refine s_op (o_assign (v := (.bool (decide (r.kind = 1)))) rfl ?_)
        refine s_nil ?_
        refine t_norm (hK64 _ _ ?_)
        refine c_false rfl (decide_eq_false h38) ?_
        refine wp_seq_k fun K65 hK65 => ?_
        refine c_region ?_
        refine s_op (o_move (v := (.pointer none)) rfl ?_)
        refine s_op (o_pnil (p := none) Try.underlying127 rfl rfl ?_)
        refine s_op (o_assign (v := (.bool true)) rfl ?_)
        refine s_nil ?_
        refine t_norm (hK65 _ _ ?_)
        refine c_true rfl rfl ?_
        refine wp_seq_k fun K66 hK66 => ?_
        refine c_region ?_
        refine s_op (o_assign (v := (.int .i64 7)) rfl ?_)
        refine s_nil ?_
        refine t_norm (hK66 _ _ ?_)
        refine wp_ret ?_
        refine b_ret (t_ret (c_ret1 Try.results68  (v := (.int .i64 7)) rfl ?_))
        have q67 : (oneS v.m home r).2 = 7 := by simp only [List.all_cons, List.all_nil, Bool.and_true, Bool.not_eq_true', Bool.not_eq_false'] at h17; unfold oneS newK; simp [putK_two, hN27, h17, h17_n, h38]
        have hH68 : Has E { w16 with drawn := w16.drawn + 1 } [([Hp.one tb (.cells #[(.map (some x1))] 125 (0, 0))] ++ s2), [Hp.one b11 (.cells #[(.int .i64 r.kind), (.int .i64 r.gsn), (.int .i64 r.txn), (.int .i64 r.prev), (.int .i64 r.page), (S r.key), (.bool r.bh), (S r.bv), (.bool r.ah), (S r.av), (.int .i64 r.undo)] 32 (0, 0))], [Hp.one b6 (.cells #[(.int .i64 r.kind), (.int .i64 r.gsn), (.int .i64 r.txn), (.int .i64 r.prev), (.int .i64 r.page), (S r.key), (.bool r.bh), (S r.bv), (.bool r.ah), (S r.av), (.int .i64 r.undo)] 32 (0, 0))], R] := Has.cl2 ((hH25.front 3 rfl).front 3 rfl)
        have hd69 : TtAt tb ([Hp.one tb (.cells #[(.map (some x1))] 125 (0, 0))] ++ s2) v := TtAt.mk (v := v) f3
        have q70 : (⟨(oneS v.m home r).1⟩ : TxnS) = v := by simp only [List.all_cons, List.all_nil, Bool.and_true, Bool.not_eq_true', Bool.not_eq_false'] at h17; unfold oneS newK; simp [putK_two, hN27, h17, h17_n, h38]
        have hH71 : Has E { w16 with drawn := w16.drawn + 1 } [([Hp.one tb (.cells #[(.map (some x1))] 125 (0, 0))] ++ s2), R] := ((hH68.front 3 rfl).front 1 rfl).first 2 rfl
        exact ⟨_, by rw [q67], (by rw [q70]; exact hd69), hH71⟩
    · -- some
      have hsz_ := hsz.get hS28
      refine r_op 7 rfl (by kernel_rfl) (o_assign (v := (.pointer (some ⟨b29, 0, none⟩))) rfl ?_)
      refine Rest.done (by kernel_rfl) ?_
      refine t_norm (hK24 _ _ ?_)
      refine wp_seq_k fun K72 hK72 => ?_
      refine wp_block ?_
      refine wp_seq_k fun K73 hK73 => ?_
      refine c_region ?_
      refine s_op (o_fieldAddr (k := 0) (fun _ => by kernel_rfl) rfl ?_)
      refine s_op (o_load1 (v := (.int .i64 r.kind)) Try.underlying3 rfl rfl hH35 (seg_sub 3 rfl) (CellsAt.one rfl) ?_)
      refine s_op (o_eql (a := r.kind) (b := 1) rfl rfl ?_)
      refine s_op (o_move (v := (.bool (decide (r.kind = 1)))) rfl ?_)
      by_cases h74 : r.kind = 1
      · -- r.kind = 1
        refine s_on 23 rfl (congrArg Value.bool (decide_eq_true h74)) (o_move (v := (.pointer (some ⟨b29, 0, none⟩))) rfl ?_)
        refine s_on 23 rfl (congrArg Value.bool (decide_eq_true h74)) (o_pnnil (p := some _) Try.underlying127 rfl rfl ?_)
        refine s_op (o_pick_t (u := (.bool true)) ((rfl : _ = _).trans (congrArg Value.bool (decide_eq_true h74))) rfl ?_)
        refine s_op (o_assign (v := (.bool true)) rfl ?_)
        refine s_nil ?_
        refine t_norm (hK73 _ _ ?_)
        refine c_true rfl rfl ?_
        refine wp_seq_k fun K75 hK75 => ?_
        refine c_region ?_
        refine s_op (o_assign (v := (.int .i64 8)) rfl ?_)
        refine s_nil ?_
        refine t_norm (hK75 _ _ ?_)
        refine wp_ret ?_
        refine b_ret (t_ret (c_ret1 Try.results68  (v := (.int .i64 8)) rfl ?_))
        have q76 : (oneS v.m home r).2 = 8 := by simp only [List.all_cons, List.all_nil, Bool.and_true, Bool.not_eq_true', Bool.not_eq_false'] at h17; unfold oneS newK; simp [putK_two, hS28, putK_self hS28, h17, h17_n, h74]
        obtain ⟨sg77, hd78, hH79⟩ := DirHole.close hh34 hx33 ((hH35.front 1 rfl).front 1 rfl)
        have hd78 : DirAt iV KnAt x1 sg77 (putB v.m r.txn v30) := hd78
        have hH80 : Has E { w16 with drawn := w16.drawn + 1 } [([Hp.one tb (.cells #[(.map (some x1))] 125 (0, 0))] ++ sg77), [Hp.one b11 (.cells #[(.int .i64 r.kind), (.int .i64 r.gsn), (.int .i64 r.txn), (.int .i64 r.prev), (.int .i64 r.page), (S r.key), (.bool r.bh), (S r.bv), (.bool r.ah), (S r.av), (.int .i64 r.undo)] 32 (0, 0))], [Hp.one b6 (.cells #[(.int .i64 r.kind), (.int .i64 r.gsn), (.int .i64 r.txn), (.int .i64 r.prev), (.int .i64 r.page), (S r.key), (.bool r.bh), (S r.bv), (.bool r.ah), (S r.av), (.int .i64 r.undo)] 32 (0, 0))], R] := Has.cl2 (hH79.front 3 rfl)
        have hd81 : TtAt tb ([Hp.one tb (.cells #[(.map (some x1))] 125 (0, 0))] ++ sg77) (⟨(putB v.m r.txn v30)⟩ : TxnS) := TtAt.mk (v := (⟨(putB v.m r.txn v30)⟩ : TxnS)) hd78
        have q82 : (⟨(oneS v.m home r).1⟩ : TxnS) = (⟨(putB v.m r.txn v30)⟩ : TxnS) := by simp only [List.all_cons, List.all_nil, Bool.and_true, Bool.not_eq_true', Bool.not_eq_false'] at h17; unfold oneS newK; simp [putK_two, hS28, putK_self hS28, h17, h17_n, h74]
        have hH83 : Has E { w16 with drawn := w16.drawn + 1 } [([Hp.one tb (.cells #[(.map (some x1))] 125 (0, 0))] ++ sg77), R] := ((hH80.front 3 rfl).front 1 rfl).first 2 rfl
        exact ⟨_, by rw [q76], (by rw [q82]; exact hd81), hH83⟩
      · -- not: r.kind = 1
        refine s_off (b' := false) 23 rfl (congrArg Value.bool (decide_eq_false h74)) rfl ?_
        refine s_off (b' := false) 23 rfl (congrArg Value.bool (decide_eq_false h74)) rfl ?_
        refine s_op (o_pick_f (u := (.bool false)) ((rfl : _ = _).trans (congrArg Value.bool (decide_eq_false h74))) rfl ?_)
        refine s_op (o_assign (v := (.bool false)) rfl ?_)
        refine s_nil ?_
        refine t_norm (hK73 _ _ ?_)
        refine c_false rfl rfl ?_
        refine wp_seq_k fun K84 hK84 => ?_
        refine c_region ?_
        refine s_op (o_fieldAddr (k := 0) (fun _ => by kernel_rfl) rfl ?_)
        refine s_op (o_load1 (v := (.int .i64 r.kind)) Try.underlying3 rfl rfl hH35 (seg_sub 3 rfl) (CellsAt.one rfl) ?_)
        refine s_op (o_eql (a := r.kind) (b := 1) rfl rfl ?_)
        refine s_op (o_assign (v := (.bool (decide (r.kind = 1)))) rfl ?_)
        refine s_nil ?_
        refine t_norm (hK84 _ _ ?_)
        refine c_false rfl (decide_eq_false h74) ?_
        refine wp_seq_k fun K85 hK85 => ?_
        refine c_region ?_
        refine s_op (o_move (v := (.pointer (some ⟨b29, 0, none⟩))) rfl ?_)
        refine s_op (o_pnil (p := some _) Try.underlying127 rfl rfl ?_)
        refine s_op (o_assign (v := (.bool false)) rfl ?_)
        refine s_nil ?_
        refine t_norm (hK85 _ _ ?_)
        refine c_false rfl rfl ?_
        refine wp_skip ?_
        refine b_norm ?_
        refine t_norm (hK72 _ _ ?_)
        refine wp_seq_k fun K86 hK86 => ?_
        refine c_region ?_
        refine s_op (o_move (v := (.pointer (some ⟨b29, 0, none⟩))) rfl ?_)
        refine s_op (o_loadN (cs := [(.int .i64 r.kind), (.int .i64 r.gsn), (.int .i64 r.txn), (.int .i64 r.prev), (.int .i64 r.page), (S r.key), (.bool r.bh), (S r.bv), (.bool r.ah), (S r.av), (.int .i64 r.undo)]) Try.underlying32 rfl ti32 rfl hH35 (seg_sub 3 rfl) (CellsAt.one rfl) ?_)
        refine s_op (o_callf (vs := #[(.pointer (some ⟨b29, 0, none⟩)), (.agg #[(.int .i64 r.kind), (.int .i64 r.gsn), (.int .i64 r.txn), (.int .i64 r.prev), (.int .i64 r.page), (S r.key), (.bool r.bh), (S r.bv), (.bool r.ah), (S r.av), (.int .i64 r.undo)])]) ca115 rfl (args2 rfl rfl) (note_c (v := v30) (r := r) hH35.all1 hx33 (by first | omega | (simp only []; omega) | (simp; done) | (simp; omega))) ?_)
        rintro _ w91 ⟨sg87, rfl, hd88, hX89⟩
        refine ⟨_, rfl, ?_⟩
        have hH90 : Has E w91 [sg87, sr32, [Hp.one b11 (.cells #[(.int .i64 r.kind), (.int .i64 r.gsn), (.int .i64 r.txn), (.int .i64 r.prev), (.int .i64 r.page), (S r.key), (.bool r.bh), (S r.bv), (.bool r.ah), (S r.av), (.int .i64 r.undo)] 32 (0, 0))], [Hp.one b6 (.cells #[(.int .i64 r.kind), (.int .i64 r.gsn), (.int .i64 r.txn), (.int .i64 r.prev), (.int .i64 r.page), (S r.key), (.bool r.bh), (S r.bv), (.bool r.ah), (S r.av), (.int .i64 r.undo)] 32 (0, 0))], [Hp.one tb (.cells #[(.map (some x1))] 125 (0, 0))], R] := hX89.of_all1
        refine s_op (o_assign (v := (.int .i64 (noteE v30 r))) rfl ?_)
        refine s_nil ?_
        refine t_norm (hK86 _ _ ?_)
        refine wp_ret ?_
        refine c_ret1 Try.results68  (v := (.int .i64 (noteE v30 r))) rfl ?_
        have q92 : (oneS v.m home r).2 = (noteE v30 r) := by simp only [List.all_cons, List.all_nil, Bool.and_true, Bool.not_eq_true', Bool.not_eq_false'] at h17; unfold oneS newK; simp [putK_two, hS28, putK_self hS28, h17, h17_n, h74]
        obtain ⟨sg93, hd94, hH95⟩ := DirHole.close hh34 hd88 ((hH90.front 1 rfl).front 1 rfl)
        have hd94 : DirAt iV KnAt x1 sg93 (putB v.m r.txn (noteK v30 r)) := hd94
        have hH96 : Has E w91 [([Hp.one tb (.cells #[(.map (some x1))] 125 (0, 0))] ++ sg93), [Hp.one b11 (.cells #[(.int .i64 r.kind), (.int .i64 r.gsn), (.int .i64 r.txn), (.int .i64 r.prev), (.int .i64 r.page), (S r.key), (.bool r.bh), (S r.bv), (.bool r.ah), (S r.av), (.int .i64 r.undo)] 32 (0, 0))], [Hp.one b6 (.cells #[(.int .i64 r.kind), (.int .i64 r.gsn), (.int .i64 r.txn), (.int .i64 r.prev), (.int .i64 r.page), (S r.key), (.bool r.bh), (S r.bv), (.bool r.ah), (S r.av), (.int .i64 r.undo)] 32 (0, 0))], R] := Has.cl2 (hH95.front 3 rfl)
        have hd97 : TtAt tb ([Hp.one tb (.cells #[(.map (some x1))] 125 (0, 0))] ++ sg93) (⟨(putB v.m r.txn (noteK v30 r))⟩ : TxnS) := TtAt.mk (v := (⟨(putB v.m r.txn (noteK v30 r))⟩ : TxnS)) hd94
        have q98 : (⟨(oneS v.m home r).1⟩ : TxnS) = (⟨(putB v.m r.txn (noteK v30 r))⟩ : TxnS) := by simp only [List.all_cons, List.all_nil, Bool.and_true, Bool.not_eq_true', Bool.not_eq_false'] at h17; unfold oneS newK; simp [putK_two, hS28, putK_self hS28, h17, h17_n, h74]
        have hH99 : Has E w91 [([Hp.one tb (.cells #[(.map (some x1))] 125 (0, 0))] ++ sg93), R] := ((hH96.front 3 rfl).front 1 rfl).first 2 rfl
        exact ⟨_, by rw [q92], (by rw [q98]; exact hd97), hH99⟩
end Go.Q
namespace Go.Q
open Go.Proofs
set_option linter.unusedVariables false
set_option maxRecDepth 100000
attribute [local irreducible] wpList OK Code.wp
set_option maxHeartbeats 4000000 in
theorem tnote_c {E w : World} {R : List Hp} {tb : Nat} {sg_tb : List Hp} {v : TxnS} {home : Int} {v_l : Value} {l : List Rec} {n : Nat} (hH : Has E w [sg_tb, R]) (h_tb : TtAt tb sg_tb v) (h_l : Sl R 11 v_l l.length (l.flatMap recC)) (hsz : szK v.m n) (hnn : n + l.length ≤ 1000) :
    Calls Try.prog 18 #[(.pointer (some ⟨tb, 0, none⟩)), (.int .i64 home), v_l] w fun e w' => ∃ (sg_tb' : List Hp), e = .returned (.int .i64 ((noteL home v.m l).2)) ∧ (TtAt tb sg_tb' (⟨(noteL home v.m l).1⟩ : TxnS)) ∧ Has E w' [sg_tb', R] := by
  have hn_ := h_l.le
  obtain ⟨x1, s2, rfl, f3⟩ := h_tb
  have hH4 : Has E w [[Hp.one tb (.cells #[(.map (some x1))] 125 (0, 0))], s2, R] := Has.op2 hH
  refine c_enter (args := [(.pointer (some ⟨tb, 0, none⟩)), (.int .i64 home), v_l]) Try.func18 rfl Try.ntmps18 (by simp) ?_
  refine wp_seq_k fun K5 hK5 => ?_
  refine c_region ?_
  refine s_op (o_assign (v := (.int .i64 0)) rfl ?_)
  refine s_nil ?_
  refine t_norm (hK5 _ _ ?_)
  refine wp_seq_k fun K6 hK6 => ?_
  refine wp_seq_k fun K7 hK7 => ?_
  refine c_region ?_
  refine s_op (o_move (v := (.pointer (some ⟨tb, 0, none⟩))) rfl ?_)
  refine s_op (o_pnil (p := some _) Try.underlying25 rfl rfl ?_)
  refine s_nil ?_
  refine t_norm (hK7 _ _ ?_)
  refine c_false rfl rfl ?_
  refine wp_skip ?_
  refine t_norm (hK6 _ _ ?_)
  refine wp_seq_k fun K8 hK8 => ?_
  refine wp_seq_k fun K9 hK9 => ?_
  refine c_region ?_
  refine s_op (o_move (v := v_l) rfl ?_)
  refine s_op (o_lenS Try.underlying22 rfl h_l ?_)
  refine s_op (o_move (v := (.int .i64 0)) rfl ?_)
  refine s_nil ?_
  refine t_norm (hK9 _ _ ?_)
  refine wp_block ?_
  have hH10 : Has E w [([Hp.one tb (.cells #[(.map (some x1))] 125 (0, 0))] ++ s2), R] := Has.cl2 ((hH4.front 1 rfl).front 1 rfl)
  have hd11 : TtAt tb ([Hp.one tb (.cells #[(.map (some x1))] 125 (0, 0))] ++ s2) v := TtAt.mk (v := v) f3
  let I13 : Nat → (Nat → Value) → World → Prop := fun n__ r__ w__ => ∃ (k : Nat) (t2 : KTab) (sg2 : List Hp), n__ = l.length - k ∧ Has E w__ [sg2, R] ∧ (k ≤ l.length) ∧ (TtAt tb sg2 (⟨t2⟩ : TxnS)) ∧ (szK t2 (n + k)) ∧ ((noteL home v.m l) = noteL home t2 (l.drop k)) ∧ r__ 0 = (.pointer (some ⟨tb, 0, none⟩)) ∧ r__ 1 = (.int .i64 home) ∧ r__ 2 = v_l ∧ r__ 11 = (.bool false) ∧ r__ 12 = v_l ∧ r__ 13 = (.int .i64 ((l.length : Nat) : Int)) ∧ r__ 14 = (.int .i64 (k : Int))
  refine c_loop I13 _ ⟨0, v.m, ([Hp.one tb (.cells #[(.map (some x1))] 125 (0, 0))] ++ s2), rfl, hH10, Nat.zero_le _, hd11, hsz, rfl, rfl, rfl, rfl, rfl, rfl, rfl, rfl⟩ ?_
  rintro n_ r16 w14 ⟨k, t2, sg2, rfl, hH15, hk, ht2, hs2, hnl, e12_0, e12_1, e12_2, e12_11, e12_12, e12_13, e12_14⟩
  refine wp_seq_k fun K17 hK17 => ?_
  refine c_region ?_
  refine s_op (o_lss (a := (k : Int)) (b := ((l.length : Nat) : Int)) e12_14 e12_13 ?_)
  refine s_nil ?_
  refine t_norm (hK17 _ _ ?_)
  refine wp_seq_k fun K18 hK18 => ?_
  refine c_cond rfl (fun h19 => ?_) (fun h19 => ?_)
  · -- (k : Int) < ((l.length : Nat) : Int)
    refine wp_skip ?_
    refine t_norm (hK18 _ _ ?_)
    refine wp_seq_k fun K20 hK20 => ?_
    refine wp_block ?_
    refine wp_seq_k fun K21 hK21 => ?_
    refine c_region ?_
    obtain ⟨x25, hx26⟩ : ∃ x_, l[((k : Int)).toNat]? = some x_ := get_some (by omega)
    refine s_op (o_indexF recC_len Try.underlying22 ti32 e12_12 h_l rfl e12_14 (by omega) hx26 fun b22 o23 hc24 => ?_)
    refine s_op (o_loadN (cs := [(.int .i64 x25.kind), (.int .i64 x25.gsn), (.int .i64 x25.txn), (.int .i64 x25.prev), (.int .i64 x25.page), (S x25.key), (.bool x25.bh), (S x25.bv), (.bool x25.ah), (S x25.av), (.int .i64 x25.undo)]) Try.underlying32 rfl ti32 rfl hH15 (seg_sub 1 rfl) hc24 ?_)
    refine s_op (o_alloc (cs := #[(.int .i64 0), (.int .i64 0), (.int .i64 0), (.int .i64 0), (.int .i64 0), (S ([] : List UInt8)), (.bool false), (S ([] : List UInt8)), (.bool false), (S ([] : List UInt8)), (.int .i64 0)]) ti32 rfl hH15 fun b27 w28 hH29 => ?_)
    refine s_eff (o_storeN (vs := [(.int .i64 x25.kind), (.int .i64 x25.gsn), (.int .i64 x25.txn), (.int .i64 x25.prev), (.int .i64 x25.page), (S x25.key), (.bool x25.bh), (S x25.bv), (.bool x25.ah), (S x25.av), (.int .i64 x25.undo)]) (c' := #[(.int .i64 x25.kind), (.int .i64 x25.gsn), (.int .i64 x25.txn), (.int .i64 x25.prev), (.int .i64 x25.page), (S x25.key), (.bool x25.bh), (S x25.bv), (.bool x25.ah), (S x25.av), (.int .i64 x25.undo)]) ti32 rfl rfl rfl rfl (by intro u hu; simp only [List.mem_cons, List.not_mem_nil, or_false] at hu; rcases hu with rfl | rfl | rfl | rfl | rfl | rfl | rfl | rfl | rfl | rfl | rfl <;> first | rfl) (by simp) (by kernel_rfl) (hH29.front 0 rfl) fun w30 hH31 => ?_)
    refine s_nil ?_
    refine t_norm (hK21 _ _ ?_)
    refine wp_seq_k fun K32 hK32 => ?_
    refine c_region ?_
    refine s_op (o_move (v := (.pointer (some ⟨tb, 0, none⟩))) e12_0 ?_)
    refine s_op (o_move (v := (.int .i64 home)) e12_1 ?_)
    refine s_op (o_loadN (cs := [(.int .i64 x25.kind), (.int .i64 x25.gsn), (.int .i64 x25.txn), (.int .i64 x25.prev), (.int .i64 x25.page), (S x25.key), (.bool x25.bh), (S x25.bv), (.bool x25.ah), (S x25.av), (.int .i64 x25.undo)]) Try.underlying32 rfl ti32 rfl hH31 (seg_sub 0 rfl) (CellsAt.one rfl) ?_)
    refine s_op (o_callf (vs := #[(.pointer (some ⟨tb, 0, none⟩)), (.int .i64 home), (.agg #[(.int .i64 x25.kind), (.int .i64 x25.gsn), (.int .i64 x25.txn), (.int .i64 x25.prev), (.int .i64 x25.page), (S x25.key), (.bool x25.bh), (S x25.bv), (.bool x25.ah), (S x25.av), (.int .i64 x25.undo)])]) ca68 rfl (args3 rfl rfl rfl) (one_c (v := (⟨t2⟩ : TxnS)) (home := home) (r := x25) (hH31.front 1 rfl).all1 ht2 (hs2.mono (by omega))) ?_)
    rintro _ w37 ⟨sg33, rfl, hd34, hX35⟩
    refine ⟨_, rfl, ?_⟩
    have hH36 : Has E w37 [sg33, [Hp.one b27 (.cells #[(.int .i64 x25.kind), (.int .i64 x25.gsn), (.int .i64 x25.txn), (.int .i64 x25.prev), (.int .i64 x25.page), (S x25.key), (.bool x25.bh), (S x25.bv), (.bool x25.ah), (S x25.av), (.int .i64 x25.undo)] 32 (0, 0))], R] := hX35.of_all1
    refine s_op (o_assign (v := (.int .i64 ((oneS (⟨t2⟩ : TxnS).m home x25).2))) rfl ?_)
    refine s_nil ?_
    refine t_norm (hK32 _ _ ?_)
    refine wp_seq_k fun K38 hK38 => ?_
    refine c_region ?_
    refine s_op (o_move (v := (.int .i64 ((oneS (⟨t2⟩ : TxnS).m home x25).2))) rfl ?_)
    refine s_op (o_neq (a := (oneS (⟨t2⟩ : TxnS).m home x25).2) (b := 0) rfl rfl ?_)
    refine s_nil ?_
    refine t_norm (hK38 _ _ ?_)
    refine c_cond rfl (fun h39 => ?_) (fun h39 => ?_)
    · -- (oneS (⟨t2⟩ : TxnS).m home x25).2 ≠ 0
      refine wp_seq_k fun K40 hK40 => ?_
      refine c_region ?_
      refine s_op (o_move (v := (.int .i64 ((oneS (⟨t2⟩ : TxnS).m home x25).2))) rfl ?_)
      refine s_op (o_assign (v := (.int .i64 ((oneS (⟨t2⟩ : TxnS).m home x25).2))) rfl ?_)
      refine s_nil ?_
      refine t_norm (hK40 _ _ ?_)
      refine wp_ret ?_
      refine b_ret (t_ret (t_ret (b_ret (t_ret (c_ret1 Try.results18  (v := (.int .i64 ((oneS (⟨t2⟩ : TxnS).m home x25).2))) rfl ?_)))))
      have hq_ := noteL_stop hnl (show l[k]? = some _ from hx26) h39
      have q41 : (noteL home v.m l).2 = (oneS (⟨t2⟩ : TxnS).m home x25).2 := by rw [hq_]
      have q42 : (⟨(noteL home v.m l).1⟩ : TxnS) = (⟨(oneS (⟨t2⟩ : TxnS).m home x25).1⟩ : TxnS) := by rw [hq_]
      have hH43 : Has E w37 [sg33, R] := ((hH36.front 2 rfl).front 1 rfl).first 2 rfl
      exact ⟨_, by rw [q41], (by rw [q42]; exact hd34), hH43⟩
    · -- not: (oneS (⟨t2⟩ : TxnS).m home x25).2 ≠ 0
      refine wp_skip ?_
      refine b_norm ?_
      refine t_norm (hK20 _ _ ?_)
      refine c_region ?_
      refine s_op (o_add (a := (k : Int)) (b := 1) e12_14 rfl (w64 (by omega) (by omega)) ?_)
      refine s_op (o_move (v := (.int .i64 ((k : Int) + 1))) rfl ?_)
      refine s_nil ?_
      have hH44 : Has E w37 [sg33, R] := ((hH36.front 2 rfl).front 1 rfl).first 2 rfl
      refine t_norm ⟨l.length - (k + 1), _, rfl, ?_, ?_⟩
      · omega
      · exact ⟨(k + 1), ((oneS (⟨t2⟩ : TxnS).m home x25).1), sg33, rfl, hH44, (by omega), (hd34), (hs2.one), (noteL_go hnl (show l[k]? = some _ from hx26) (Classical.not_not.1 h39)), e12_0, e12_1, e12_2, e12_11, e12_12, e12_13, rfl⟩
  · -- not: (k : Int) < ((l.length : Nat) : Int)
    refine wp_exit ?_
    refine t_exit (t_exit (x_in (?_)))
    refine t_norm (hK8 _ _ ?_)
    refine wp_seq_k fun K45 hK45 => ?_
    refine c_region ?_
    refine s_op (o_assign (v := (.int .i64 0)) rfl ?_)
    refine s_nil ?_
    refine t_norm (hK45 _ _ ?_)
    refine wp_ret ?_
    refine c_ret1 Try.results18  (v := (.int .i64 0)) rfl ?_
    have hq_ := noteL_end hnl (by omega)
    have q46 : (noteL home v.m l).2 = 0 := by rw [hq_]
    have q47 : (⟨(noteL home v.m l).1⟩ : TxnS) = (⟨t2⟩ : TxnS) := by rw [hq_]
    exact ⟨_, by rw [q46], (by rw [q47]; exact ht2), hH15⟩
set_option maxHeartbeats 4000000 in
theorem tget_c {E w : World} {R : List Hp} {tb : Nat} {v : TxnS} {id : Int}  (hH : Has E w [R]) (h_tb : TtRd R tb v) (hsz : szK v.m 1000) :
    Calls Try.prog 19 #[(.pointer (some ⟨tb, 0, none⟩)), (.int .i64 id)] w fun e w' => ∃ (v1' : Value) (s2' : List Hp) (v4' : Value) (s5' : List Hp), e = .returned (.tuple #[(.agg #[(.int .i64 (((getB v.m id).map (·.id)).getD 0)), (.int .i64 (((getB v.m id).map (·.home)).getD 0)), (.int .i64 (((getB v.m id).map (·.first)).getD 0)), (.int .i64 (((getB v.m id).map (·.last)).getD 0)), (.int .i64 (((getB v.m id).map (·.state)).getD 0)), v1', v4']), (.bool ((getB v.m id).isSome))]) ∧ (Own 32 11 v1' (((getB v.m id).map (·.changes)).getD []).length ((((getB v.m id).map (·.changes)).getD []).flatMap recC) s2') ∧ (Own 39 2 v4' (((getB v.m id).map (·.places)).getD []).length ((((getB v.m id).map (·.places)).getD []).flatMap tmC) s5') ∧ Has E w' [s2', s5', R] := by
  obtain ⟨x1, hc3, f2⟩ := h_tb
  refine c_enter (args := [(.pointer (some ⟨tb, 0, none⟩)), (.int .i64 id)]) Try.func19 rfl Try.ntmps19 (by simp) ?_
  refine wp_seq_k fun K4 hK4 => ?_
  refine c_region ?_
  refine s_op (o_alloc (cs := #[(.int .i64 0), (.int .i64 0), (.int .i64 0), (.int .i64 0), (.int .i64 0), (.slice none 0 0), (.slice none 0 0)]) ti35 rfl hH fun b5 w6 hH7 => ?_)
  refine s_op (o_assign (v := (.bool false)) rfl ?_)
  refine s_nil ?_
  refine t_norm (hK4 _ _ ?_)
  refine wp_seq_k fun K8 hK8 => ?_
  refine wp_seq_k fun K9 hK9 => ?_
  refine c_region ?_
  refine s_op (o_move (v := (.pointer (some ⟨tb, 0, none⟩))) rfl ?_)
  refine s_op (o_pnil (p := some _) Try.underlying25 rfl rfl ?_)
  refine s_op (o_move (v := (.bool false)) rfl ?_)
  refine s_on 8 rfl rfl (o_move (v := (.pointer (some ⟨tb, 0, none⟩))) rfl ?_)
  refine s_on 8 rfl rfl (o_nilCheck rfl ?_)
  refine s_on 8 rfl rfl (o_fieldAddr (k := 0) (fun _ => by kernel_rfl) rfl ?_)
  refine s_on 8 rfl rfl (o_load1 (v := (.map (some x1))) Try.underlying123 rfl rfl hH7 (seg_sub 1 rfl) (CellsAt.field (k := 0) (ds := [(.map (some x1))]) hc3 rfl) ?_)
  refine s_on 8 rfl rfl (o_move (v := (.int .i64 id)) rfl ?_)
  refine s_on 8 rfl rfl (o_dirRd (k := id) Try.underlying123 (key_int Try.underlying3) ti127 rfl rfl f2 hH7 (seg_sub 1 rfl) (fun hN10 => ?_) (fun b12 v13 hS11 hr14 => ?_))
  · -- none
    refine s_on 8 rfl rfl (o_pnil (p := none) Try.underlying127 rfl rfl ?_)
    refine s_op (o_pick_f (u := (.bool true)) rfl rfl ?_)
    refine s_nil ?_
    refine t_norm (hK9 _ _ ?_)
    refine c_true rfl rfl ?_
    refine wp_seq_k fun K15 hK15 => ?_
    refine c_region ?_
    refine s_op (o_sight (v := (.agg #[(.int .i64 0), (.int .i64 0), (.int .i64 0), (.int .i64 0), (.int .i64 0), (.slice none 0 0), (.slice none 0 0)])) (fun _ => by kernel_rfl) ?_)
    refine s_eff (o_storeN (vs := [(.int .i64 0), (.int .i64 0), (.int .i64 0), (.int .i64 0), (.int .i64 0), (.slice none 0 0), (.slice none 0 0)]) (c' := #[(.int .i64 0), (.int .i64 0), (.int .i64 0), (.int .i64 0), (.int .i64 0), (.slice none 0 0), (.slice none 0 0)]) ti35 rfl rfl rfl rfl (by intro u hu; simp only [List.mem_cons, List.not_mem_nil, or_false] at hu; rcases hu with rfl | rfl | rfl | rfl | rfl | rfl | rfl <;> first | rfl) (by simp) (by kernel_rfl) (hH7.front 0 rfl) fun w16 hH17 => ?_)
    refine s_op (o_assign (v := (.bool false)) rfl ?_)
    refine s_nil ?_
    refine t_norm (hK15 _ _ ?_)
    refine wp_ret ?_
    refine t_ret (c_retC2 Try.results19 rfl (run_loadVarN (cs := [(.int .i64 0), (.int .i64 0), (.int .i64 0), (.int .i64 0), (.int .i64 0), (.slice none 0 0), (.slice none 0 0)]) Try.underlying35 rfl ti35 hH17 (seg_sub 0 rfl) (CellsAt.one rfl)) (x := (.bool false)) rfl ?_)
    have q18 : (((getB v.m id).map (·.id)).getD 0) = 0 := by rw [hN10]; rfl
    have q19 : (((getB v.m id).map (·.home)).getD 0) = 0 := by rw [hN10]; rfl
    have q20 : (((getB v.m id).map (·.first)).getD 0) = 0 := by rw [hN10]; rfl
    have q21 : (((getB v.m id).map (·.last)).getD 0) = 0 := by rw [hN10]; rfl
    have q22 : (((getB v.m id).map (·.state)).getD 0) = 0 := by rw [hN10]; rfl
    have q23 : (((getB v.m id).map (·.changes)).getD []) = ([] : List Rec) := by rw [hN10]; rfl
    have q24 : (((getB v.m id).map (·.places)).getD []) = ([] : List (Int × Int)) := by rw [hN10]; rfl
    have q25 : (getB v.m id).isSome = false := by rw [hN10]; rfl
    have hH26 : Has E w16 [[], [], R] := (Has.nil (Has.nil (hH17.front 1 rfl))).first 3 rfl
    exact ⟨_, _, _, _, by rw [q18, q19, q20, q21, q22]; rw [q25], (by rw [q23]; exact (Own.nil 32 11)), (by rw [q24]; exact (Own.nil 39 2)), hH26⟩
  · -- some
    have hsz_ := hsz.get hS11
    obtain ⟨x27, x28, hc31, f29, f30⟩ := hr14
    have f29_n := f29.le
    have f30_n := f30.le
    refine s_on 8 rfl rfl (o_pnil (p := some _) Try.underlying127 rfl rfl ?_)
    refine s_op (o_pick_f (u := (.bool false)) rfl rfl ?_)
    refine s_nil ?_
    refine t_norm (hK9 _ _ ?_)
    refine c_false rfl rfl ?_
    refine wp_skip ?_
    refine t_norm (hK8 _ _ ?_)
    refine wp_seq_k fun K32 hK32 => ?_
    refine c_region ?_
    refine s_op (o_move (v := (.pointer (some ⟨tb, 0, none⟩))) rfl ?_)
    refine s_op (o_nilCheck rfl ?_)
    refine s_op (o_fieldAddr (k := 0) (fun _ => by kernel_rfl) rfl ?_)
    refine s_op (o_load1 (v := (.map (some x1))) Try.underlying123 rfl rfl hH7 (seg_sub 1 rfl) (CellsAt.field (k := 0) (ds := [(.map (some x1))]) hc3 rfl) ?_)
    refine s_op (o_move (v := (.int .i64 id)) rfl ?_)
    refine s_op (o_dirRd (k := id) Try.underlying123 (key_int Try.underlying3) ti127 rfl rfl f2 hH7 (seg_sub 1 rfl) (fun hN33 => ?_) (fun b35 v36 hS34 hr37 => ?_))
    · -- none
      exact absurd (Eq.trans (Eq.symm hS11) hN33) (by simp)
    · -- some
      have e_ : v13 = v36 := Option.some.inj (Eq.trans (Eq.symm hS11) hS34)
      subst e_
      have hsz_ := hsz.get hS34
      obtain ⟨x38, x39, hc42, f40, f41⟩ := hr37
      have f40_n := f40.le
      have f41_n := f41.le
      refine s_op (o_callf (vs := #[(.pointer (some ⟨b35, 0, none⟩))]) ca69 rfl (args1 rfl) (told_c (v := v13) hH7.all ((KnRd.mk hc42 f40 f41).mono (seg_sub 1 rfl)) (by first | omega | (simp only []; omega) | (simp; done) | (simp; omega))) ?_)
      rintro _ w51 ⟨v43, s44, v46, s47, rfl, ho45, ho48, hX49⟩
      refine ⟨_, rfl, ?_⟩
      have hH50 : Has E w51 [s44, s47, [Hp.one b5 (.cells #[(.int .i64 0), (.int .i64 0), (.int .i64 0), (.int .i64 0), (.int .i64 0), (.slice none 0 0), (.slice none 0 0)] 35 (0, 0))], R] := hX49.of_all2
      refine s_eff (o_storeN (vs := [(.int .i64 v13.id), (.int .i64 v13.home), (.int .i64 v13.first), (.int .i64 v13.last), (.int .i64 v13.state), v43, v46]) (c' := #[(.int .i64 v13.id), (.int .i64 v13.home), (.int .i64 v13.first), (.int .i64 v13.last), (.int .i64 v13.state), v43, v46]) ti35 rfl rfl rfl rfl (by intro u hu; simp only [List.mem_cons, List.not_mem_nil, or_false] at hu; rcases hu with rfl | rfl | rfl | rfl | rfl | rfl | rfl <;> first | rfl | exact ho45.one | exact ho48.one) (by simp) (by kernel_rfl) (hH50.front 2 rfl) fun w52 hH53 => ?_)
      refine s_op (o_assign (v := (.bool true)) rfl ?_)
      refine s_nil ?_
      refine t_norm (hK32 _ _ ?_)
      refine wp_ret ?_
      refine c_retC2 Try.results19 rfl (run_loadVarN (cs := [(.int .i64 v13.id), (.int .i64 v13.home), (.int .i64 v13.first), (.int .i64 v13.last), (.int .i64 v13.state), v43, v46]) Try.underlying35 rfl ti35 hH53 (seg_sub 0 rfl) (CellsAt.one rfl)) (x := (.bool true)) rfl ?_
      have q54 : (((getB v.m id).map (·.id)).getD 0) = v13.id := by rw [hS11]; rfl
      have q55 : (((getB v.m id).map (·.home)).getD 0) = v13.home := by rw [hS11]; rfl
      have q56 : (((getB v.m id).map (·.first)).getD 0) = v13.first := by rw [hS11]; rfl
      have q57 : (((getB v.m id).map (·.last)).getD 0) = v13.last := by rw [hS11]; rfl
      have q58 : (((getB v.m id).map (·.state)).getD 0) = v13.state := by rw [hS11]; rfl
      have q59 : (((getB v.m id).map (·.changes)).getD []) = v13.changes := by rw [hS11]; rfl
      have q60 : (((getB v.m id).map (·.places)).getD []) = v13.places := by rw [hS11]; rfl
      have q61 : (getB v.m id).isSome = true := by rw [hS11]; rfl
      have hH62 : Has E w52 [s44, s47, R] := (((hH53.front 3 rfl).front 3 rfl).front 3 rfl).first 3 rfl
      exact ⟨_, _, _, _, by rw [q54, q55, q56, q57, q58]; rw [q61], (by rw [q59]; exact ho45), (by rw [q60]; exact ho48), hH62⟩
end Go.Q
namespace Go.Q
open Go.Proofs
set_option linter.unusedVariables false
set_option maxRecDepth 100000
attribute [local irreducible] wpList OK Code.wp
set_option maxHeartbeats 4000000 in
theorem tback_c {E w : World} {R : List Hp} {tb : Nat} {v : TxnS} {id : Int} {v_no : Value} {no : List Int}  (hH : Has E w [R]) (h_tb : TtRd R tb v) (h_no : Sl R 1 v_no no.length (no.map iV)) (hsz : szK v.m 1000) (hok : TOk v.m) (hno : no.length ≤ 1000) :
    Calls Try.prog 20 #[(.pointer (some ⟨tb, 0, none⟩)), (.int .i64 id), v_no] w fun e w' => ∃ (v1' : Value) (s2' : List Hp), e = .returned (.tuple #[v1', (.int .i64 ((backT v.m id no).2))]) ∧ (Own 32 11 v1' ((backT v.m id no).1).length (((backT v.m id no).1).flatMap recC) s2') ∧ Has E w' [s2', R] := by
  obtain ⟨x1, hc3, f2⟩ := h_tb
  refine c_enter (args := [(.pointer (some ⟨tb, 0, none⟩)), (.int .i64 id), v_no]) Try.func20 rfl Try.ntmps20 (by simp) ?_
  refine wp_seq_k fun K4 hK4 => ?_
  refine c_region ?_
  refine s_op (o_assign (v := (.slice none 0 0)) rfl ?_)
  refine s_op (o_assign (v := (.int .i64 0)) rfl ?_)
  refine s_nil ?_
  refine t_norm (hK4 _ _ ?_)
  refine wp_seq_k fun K5 hK5 => ?_
  refine wp_seq_k fun K6 hK6 => ?_
  refine c_region ?_
  refine s_op (o_move (v := (.pointer (some ⟨tb, 0, none⟩))) rfl ?_)
  refine s_op (o_pnil (p := some _) Try.underlying25 rfl rfl ?_)
  refine s_nil ?_
  refine t_norm (hK6 _ _ ?_)
  refine c_false rfl rfl ?_
  refine wp_skip ?_
  refine t_norm (hK5 _ _ ?_)
  refine wp_seq_k fun K7 hK7 => ?_
  refine c_region ?_
  refine s_op (o_move (v := (.pointer (some ⟨tb, 0, none⟩))) rfl ?_)
  refine s_op (o_nilCheck rfl ?_)
  refine s_op (o_fieldAddr (k := 0) (fun _ => by kernel_rfl) rfl ?_)
  refine s_op (o_load1 (v := (.map (some x1))) Try.underlying123 rfl rfl hH (seg_sub 0 rfl) (CellsAt.field (k := 0) (ds := [(.map (some x1))]) hc3 rfl) ?_)
  refine s_op (o_move (v := (.int .i64 id)) rfl ?_)
  refine s_op (o_dirRd (k := id) Try.underlying123 (key_int Try.underlying3) ti127 rfl rfl f2 hH (seg_sub 0 rfl) (fun hN8 => ?_) (fun b10 v11 hS9 hr12 => ?_))
  · -- none
    refine s_op (o_assign (v := (.pointer none)) rfl ?_)
    refine s_nil ?_
    refine t_norm (hK7 _ _ ?_)
    refine wp_seq_k fun K13 hK13 => ?_
    refine wp_block ?_
    refine wp_seq_k fun K14 hK14 => ?_
    refine c_region ?_
    refine s_op (o_move (v := (.pointer none)) rfl ?_)
    refine s_op (o_pnil (p := none) Try.underlying127 rfl rfl ?_)
    refine s_op (o_assign (v := (.bool true)) rfl ?_)
    refine s_nil ?_
    refine t_norm (hK14 _ _ ?_)
    refine c_true rfl rfl ?_
    refine wp_seq_k fun K15 hK15 => ?_
    refine c_region ?_
    refine s_op (o_assign (v := (.slice none 0 0)) rfl ?_)
    refine s_op (o_assign (v := (.int .i64 7)) rfl ?_)
    refine s_nil ?_
    refine t_norm (hK15 _ _ ?_)
    refine wp_ret ?_
    refine b_ret (t_ret (c_ret2 Try.results20  (v := (.slice none 0 0)) rfl (x := (.int .i64 7)) rfl ?_))
    have q16 : (backT v.m id no).1 = ([] : List Rec) := by unfold backT; simp [hN8]
    have q17 : (backT v.m id no).2 = 7 := by unfold backT; simp [hN8]
    have hH18 : Has E w [[], R] := (Has.nil hH).first 2 rfl
    exact ⟨_, _, by rw [q17], (by rw [q16]; exact (Own.nil 32 11)), hH18⟩
  · -- some
    have hsz_ := hsz.get hS9
    have hok_ := hok.get hS9
    obtain ⟨x19, x20, hc23, f21, f22⟩ := hr12
    have f21_n := f21.le
    have f22_n := f22.le
    refine s_op (o_assign (v := (.pointer (some ⟨b10, 0, none⟩))) rfl ?_)
    refine s_nil ?_
    refine t_norm (hK7 _ _ ?_)
    refine wp_seq_k fun K24 hK24 => ?_
    refine wp_block ?_
    refine wp_seq_k fun K25 hK25 => ?_
    refine c_region ?_
    refine s_op (o_move (v := (.pointer (some ⟨b10, 0, none⟩))) rfl ?_)
    refine s_op (o_pnil (p := some _) Try.underlying127 rfl rfl ?_)
    refine s_op (o_assign (v := (.bool false)) rfl ?_)
    refine s_nil ?_
    refine t_norm (hK25 _ _ ?_)
    refine c_false rfl rfl ?_
    refine wp_seq_k fun K26 hK26 => ?_
    refine c_region ?_
    refine s_op (o_move (v := (.pointer (some ⟨b10, 0, none⟩))) rfl ?_)
    refine s_op (o_nilCheck rfl ?_)
    refine s_op (o_fieldAddr (k := 0) (fun _ => by kernel_rfl) rfl ?_)
    refine s_op (o_fieldAddr (k := 4) (fun _ => by kernel_rfl) rfl ?_)
    refine s_op (o_load1 (v := (.int .i64 v11.state)) Try.underlying3 rfl rfl hH (seg_sub 0 rfl) (CellsAt.field (k := 4) (ds := [(.int .i64 v11.state)]) (CellsAt.field (k := 0) (ds := [(.int .i64 v11.id), (.int .i64 v11.home), (.int .i64 v11.first), (.int .i64 v11.last), (.int .i64 v11.state), x19, x20]) hc23 rfl) rfl) ?_)
    refine s_op (o_neq (a := v11.state) (b := 1) rfl rfl ?_)
    refine s_op (o_assign (v := (.bool (decide (v11.state ≠ 1)))) rfl ?_)
    refine s_nil ?_
    refine t_norm (hK26 _ _ ?_)
    refine c_cond rfl (fun h27 => ?_) (fun h27 => ?_)
    · -- v11.state ≠ 1
      refine wp_seq_k fun K28 hK28 => ?_
      refine c_region ?_
      refine s_op (o_assign (v := (.slice none 0 0)) rfl ?_)
      refine s_op (o_assign (v := (.int .i64 12)) rfl ?_)
      refine s_nil ?_
      refine t_norm (hK28 _ _ ?_)
      refine wp_ret ?_
      refine b_ret (t_ret (c_ret2 Try.results20  (v := (.slice none 0 0)) rfl (x := (.int .i64 12)) rfl ?_))
      have q29 : (backT v.m id no).1 = ([] : List Rec) := by unfold backT; simp [hS9, h27]
      have q30 : (backT v.m id no).2 = 12 := by unfold backT; simp [hS9, h27]
      have hH31 : Has E w [[], R] := (Has.nil hH).first 2 rfl
      exact ⟨_, _, by rw [q30], (by rw [q29]; exact (Own.nil 32 11)), hH31⟩
    · -- not: v11.state ≠ 1
      refine wp_skip ?_
      refine b_norm ?_
      refine t_norm (hK24 _ _ ?_)
      refine wp_seq_k fun K32 hK32 => ?_
      refine c_region ?_
      refine s_op (o_move (v := (.pointer (some ⟨b10, 0, none⟩))) rfl ?_)
      refine s_op (o_move (v := v_no) rfl ?_)
      refine s_op (o_callf (vs := #[(.pointer (some ⟨b10, 0, none⟩)), v_no]) ca70 rfl (args2 rfl rfl) (from_c (v := v11) (no := no) hH.all ((KnRd.mk hc23 f21 f22).mono (seg_sub 0 rfl)) (h_no.mono (seg_sub 0 rfl)) (by first | omega | (simp only []; omega) | (simp; done) | (simp; omega))) ?_)
      rintro _ w35 ⟨rfl, hX33⟩
      refine ⟨_, rfl, ?_⟩
      have hH34 := hX33.of_all
      have hfr_ := fromK_le hok_ no
      refine s_op (o_assign (v := (.int .i64 (fromK v11.places no))) rfl ?_)
      refine s_nil ?_
      refine t_norm (hK32 _ _ ?_)
      refine wp_seq_k fun K36 hK36 => ?_
      refine wp_seq_k fun K37 hK37 => ?_
      refine c_region ?_
      refine s_op (o_move (v := (.int .i64 (fromK v11.places no))) rfl ?_)
      refine s_op (o_lss (a := (fromK v11.places no)) (b := 0) rfl rfl ?_)
      refine s_nil ?_
      refine t_norm (hK37 _ _ ?_)
      refine c_cond rfl (fun h38 => ?_) (fun h38 => ?_)
      · -- (fromK v11.places no) < 0
        refine wp_seq_k fun K39 hK39 => ?_
        refine c_region ?_
        refine s_op (o_assign (v := (.slice none 0 0)) rfl ?_)
        refine s_op (o_assign (v := (.int .i64 7)) rfl ?_)
        refine s_nil ?_
        refine t_norm (hK39 _ _ ?_)
        refine wp_ret ?_
        refine t_ret (c_ret2 Try.results20  (v := (.slice none 0 0)) rfl (x := (.int .i64 7)) rfl ?_)
        have q40 : (backT v.m id no).1 = ([] : List Rec) := by unfold backT; simp [hS9, h27, h38]
        have q41 : (backT v.m id no).2 = 7 := by unfold backT; simp [hS9, h27, h38]
        have hH42 : Has E w35 [[], R] := (Has.nil hH34).first 2 rfl
        exact ⟨_, _, by rw [q41], (by rw [q40]; exact (Own.nil 32 11)), hH42⟩
      · -- not: (fromK v11.places no) < 0
        have hdl_ : (v11.changes.drop (fromK v11.places no).toNat).length ≤ 1000 := by rw [List.length_drop]; omega
        refine wp_skip ?_
        refine t_norm (hK36 _ _ ?_)
        refine wp_seq_k fun K43 hK43 => ?_
        refine c_region ?_
        refine s_op (o_move (v := (.pointer (some ⟨b10, 0, none⟩))) rfl ?_)
        refine s_op (o_nilCheck rfl ?_)
        refine s_op (o_fieldAddr (k := 0) (fun _ => by kernel_rfl) rfl ?_)
        refine s_op (o_fieldAddr (k := 5) (fun _ => by kernel_rfl) rfl ?_)
        refine s_op (o_load1 (v := x19) Try.underlying22 rfl rfl hH34 (seg_sub 0 rfl) (CellsAt.field (k := 5) (ds := [x19]) (CellsAt.field (k := 0) (ds := [(.int .i64 v11.id), (.int .i64 v11.home), (.int .i64 v11.first), (.int .i64 v11.last), (.int .i64 v11.state), x19, x20]) hc23 rfl) rfl) ?_)
        refine s_op (o_move (v := (.int .i64 (fromK v11.places no))) rfl ?_)
        refine s_op (o_sl_l Try.underlying22 ti32 rfl f21 rfl (by omega) (by omega) fun v44 hv45 => ?_)
        have hv46 := sl_dropF recC_len hv45
        refine s_op (o_callf (vs := #[v44]) ca71 rfl (args1 rfl) (rclone_c (l := v11.changes.drop ((fromK v11.places no)).toNat) hH34.all (hv46.mono (seg_sub 0 rfl)) (by first | omega | (simp only []; omega) | (simp; done) | (simp; omega))) ?_)
        rintro _ w52 ⟨v47, s48, rfl, ho49, hX50⟩
        refine ⟨_, rfl, ?_⟩
        have hH51 : Has E w52 [s48, R] := hX50.of_all1
        refine s_op (o_assign (v := v47) rfl ?_)
        refine s_nil ?_
        refine t_norm (hK43 _ _ ?_)
        refine wp_seq_k fun K53 hK53 => ?_
        refine c_region ?_
        refine s_op (o_move (v := v47) rfl ?_)
        refine s_op (o_callf (vs := #[v47]) ca72 rfl (args1 rfl) (rrev_c hH51.all1 ho49 (by omega)) ?_)
        rintro _ w58 ⟨s54, rfl, ho55, hX56⟩
        refine ⟨_, rfl, ?_⟩
        have hH57 : Has E w58 [s54, R] := hX56.of_all1
        refine s_nil ?_
        refine t_norm (hK53 _ _ ?_)
        refine wp_seq_k fun K59 hK59 => ?_
        refine c_region ?_
        refine s_op (o_move (v := v47) rfl ?_)
        refine s_op (o_assign (v := v47) rfl ?_)
        refine s_op (o_assign (v := (.int .i64 0)) rfl ?_)
        refine s_nil ?_
        refine t_norm (hK59 _ _ ?_)
        refine wp_ret ?_
        refine c_ret2 Try.results20  (v := v47) rfl (x := (.int .i64 0)) rfl ?_
        have q60 : (backT v.m id no).1 = ((v11.changes.drop ((fromK v11.places no)).toNat).reverse) := by unfold backT; simp [hS9, h27, h38]
        have q61 : (backT v.m id no).2 = 0 := by unfold backT; simp [hS9, h27, h38]
        exact ⟨_, _, by rw [q61], (by rw [q60]; exact ho55), hH57⟩
end Go.Q
namespace Go.Q
open Go.Proofs
set_option linter.unusedVariables false
set_option maxRecDepth 100000
attribute [local irreducible] wpList OK Code.wp
set_option maxHeartbeats 4000000 in
theorem great17_c {E w : World} {R : List Hp} {v_l : Value} {l : List Rec}  (hH : Has E w [R]) (h_l : Sl R 11 v_l l.length (l.flatMap recC)) :
    Calls Try.prog 15 #[v_l] w fun e w' => ∃ (gb : Bool), e = .returned (.bool gb) ∧ (gb = false → l.length ≤ 60) ∧ Has E w' [R] := by
  have hn_ := h_l.le
  refine c_enter (args := [v_l]) Try.func15 rfl Try.ntmps15 (by simp) ?_
  refine wp_seq_k fun K1 hK1 => ?_
  refine c_region ?_
  refine s_op (o_assign (v := (.bool false)) rfl ?_)
  refine s_nil ?_
  refine t_norm (hK1 _ _ ?_)
  refine wp_seq_k fun K2 hK2 => ?_
  refine wp_seq_k fun K3 hK3 => ?_
  refine c_region ?_
  refine s_op (o_move (v := v_l) rfl ?_)
  refine s_op (o_lenS Try.underlying22 rfl h_l ?_)
  refine s_op (o_gtr (a := ((l.length : Nat) : Int)) (b := 60) rfl rfl ?_)
  refine s_nil ?_
  refine t_norm (hK3 _ _ ?_)
  refine c_cond rfl (fun h4 => ?_) (fun h4 => ?_)
  · -- 60 < ((l.length : Nat) : Int)
    refine wp_seq_k fun K5 hK5 => ?_
    refine c_region ?_
    refine s_op (o_assign (v := (.bool true)) rfl ?_)
    refine s_nil ?_
    refine t_norm (hK5 _ _ ?_)
    refine wp_ret ?_
    refine t_ret (c_ret1 Try.results15  (v := (.bool true)) rfl ?_)
    exact ⟨true, rfl, (fun g => by cases g), hH⟩
  · -- not: 60 < ((l.length : Nat) : Int)
    refine wp_skip ?_
    refine t_norm (hK2 _ _ ?_)
    refine wp_seq_k fun K6 hK6 => ?_
    refine wp_seq_k fun K7 hK7 => ?_
    refine c_region ?_
    refine s_op (o_assign (v := (.int .i64 0)) rfl ?_)
    refine s_nil ?_
    refine t_norm (hK7 _ _ ?_)
    refine wp_block ?_
    let I9 : Nat → (Nat → Value) → World → Prop := fun n__ r__ w__ => ∃ (k : Nat), n__ = l.length - k ∧ Has E w__ [R] ∧ (k ≤ l.length) ∧ r__ 0 = v_l ∧ r__ 3 = (.int .i64 (k : Int)) ∧ r__ 6 = (.bool (decide (60 < ((l.length : Nat) : Int))))
    refine c_loop I9 _ ⟨0, rfl, hH, Nat.zero_le _, rfl, rfl, rfl⟩ ?_
    rintro n_ r12 w10 ⟨k, rfl, hH11, hk, e8_0, e8_3, e8_6⟩
    refine wp_seq_k fun K13 hK13 => ?_
    refine wp_seq_k fun K14 hK14 => ?_
    refine c_region ?_
    refine s_op (o_move (v := (.int .i64 (k : Int))) e8_3 ?_)
    refine s_op (o_move (v := v_l) e8_0 ?_)
    refine s_op (o_lenS Try.underlying22 rfl h_l ?_)
    refine s_op (o_lss (a := (k : Int)) (b := ((l.length : Nat) : Int)) rfl rfl ?_)
    refine s_nil ?_
    refine t_norm (hK14 _ _ ?_)
    refine c_cond rfl (fun h15 => ?_) (fun h15 => ?_)
    · -- (k : Int) < ((l.length : Nat) : Int)
      refine wp_skip ?_
      refine t_norm (hK13 _ _ ?_)
      refine wp_seq_k fun K16 hK16 => ?_
      refine wp_block ?_
      refine wp_seq_k fun K17 hK17 => ?_
      refine c_region ?_
      refine s_op (o_move (v := v_l) e8_0 ?_)
      refine s_op (o_move (v := (.int .i64 (k : Int))) e8_3 ?_)
      obtain ⟨x21, hx22⟩ : ∃ x_, l[((k : Int)).toNat]? = some x_ := get_some (by omega)
      refine s_op (o_indexF recC_len Try.underlying22 ti32 rfl h_l rfl rfl (by omega) hx22 fun b18 o19 hc20 => ?_)
      refine s_op (o_fieldAddr (k := o19 + 5) (fun _ => by kernel_rfl) rfl ?_)
      refine s_op (o_load1 (v := (S x21.key)) Try.underlying9 rfl rfl hH11 (seg_sub 0 rfl) (CellsAt.field (k := 5) (ds := [(S x21.key)]) hc20 rfl) ?_)
      refine s_op (o_slen Try.underlying9 rfl ?_)
      refine s_op (o_gtr (a := (x21.key.length : Int)) (b := 100) rfl rfl ?_)
      refine s_op (o_move (v := (.bool (decide (100 < (x21.key.length : Int))))) rfl ?_)
      by_cases h23 : 100 < (x21.key.length : Int)
      · -- 100 < (x21.key.length : Int)
        refine s_off (b' := true) 20 rfl (congrArg Value.bool (decide_eq_true h23)) rfl ?_
        refine s_off (b' := true) 20 rfl (congrArg Value.bool (decide_eq_true h23)) rfl ?_
        refine s_off (b' := true) 20 rfl (congrArg Value.bool (decide_eq_true h23)) rfl ?_
        refine s_off (b' := true) 20 rfl (congrArg Value.bool (decide_eq_true h23)) rfl ?_
        refine s_off (b' := true) 20 rfl (congrArg Value.bool (decide_eq_true h23)) rfl ?_
        refine s_off (b' := true) 20 rfl (congrArg Value.bool (decide_eq_true h23)) rfl ?_
        refine s_off (b' := true) 20 rfl (congrArg Value.bool (decide_eq_true h23)) rfl ?_
        refine s_off (b' := true) 20 rfl (congrArg Value.bool (decide_eq_true h23)) rfl ?_
        refine s_op (o_pick_t (u := (.bool true)) ((rfl : _ = _).trans (congrArg Value.bool (decide_eq_true h23))) rfl ?_)
        refine s_op (o_move (v := (.bool true)) rfl ?_)
        refine s_off (b' := true) 30 rfl rfl rfl ?_
        refine s_off (b' := true) 30 rfl rfl rfl ?_
        refine s_off (b' := true) 30 rfl rfl rfl ?_
        refine s_off (b' := true) 30 rfl rfl rfl ?_
        refine s_off (b' := true) 30 rfl rfl rfl ?_
        refine s_off (b' := true) 30 rfl rfl rfl ?_
        refine s_off (b' := true) 30 rfl rfl rfl ?_
        refine s_off (b' := true) 30 rfl rfl rfl ?_
        refine s_op (o_pick_t (u := (.bool true)) rfl rfl ?_)
        refine s_nil ?_
        refine t_norm (hK17 _ _ ?_)
        refine c_true rfl rfl ?_
        refine wp_seq_k fun K24 hK24 => ?_
        refine c_region ?_
        refine s_op (o_assign (v := (.bool true)) rfl ?_)
        refine s_nil ?_
        refine t_norm (hK24 _ _ ?_)
        refine wp_ret ?_
        refine b_ret (t_ret (t_ret (b_ret (t_ret (c_ret1 Try.results15  (v := (.bool true)) rfl ?_)))))
        exact ⟨true, rfl, (fun g => by cases g), hH11⟩
      · -- not: 100 < (x21.key.length : Int)
        refine s_on 20 rfl (congrArg Value.bool (decide_eq_false h23)) (o_move (v := v_l) e8_0 ?_)
        refine s_on 20 rfl (congrArg Value.bool (decide_eq_false h23)) (o_move (v := (.int .i64 (k : Int))) e8_3 ?_)
        refine s_on 20 rfl (congrArg Value.bool (decide_eq_false h23)) (o_indexF recC_len Try.underlying22 ti32 rfl h_l rfl rfl (by omega) hx22 fun b25 o26 hc27 => ?_)
        refine s_on 20 rfl (congrArg Value.bool (decide_eq_false h23)) (o_fieldAddr (k := o26 + 6) (fun _ => by kernel_rfl) rfl ?_)
        refine s_on 20 rfl (congrArg Value.bool (decide_eq_false h23)) (o_fieldAddr (k := o26 + 6 + 1) (fun _ => by kernel_rfl) rfl ?_)
        refine s_on 20 rfl (congrArg Value.bool (decide_eq_false h23)) (o_load1 (v := (S x21.bv)) Try.underlying9 rfl rfl hH11 (seg_sub 0 rfl) (CellsAt.field (k := 1) (ds := [(S x21.bv)]) (CellsAt.field (k := 6) (ds := [(.bool x21.bh), (S x21.bv)]) hc27 rfl) rfl) ?_)
        refine s_on 20 rfl (congrArg Value.bool (decide_eq_false h23)) (o_slen Try.underlying9 rfl ?_)
        refine s_on 20 rfl (congrArg Value.bool (decide_eq_false h23)) (o_gtr (a := (x21.bv.length : Int)) (b := 100) rfl rfl ?_)
        refine s_op (o_pick_f (u := (.bool (decide (100 < (x21.bv.length : Int))))) ((rfl : _ = _).trans (congrArg Value.bool (decide_eq_false h23))) rfl ?_)
        refine s_op (o_move (v := (.bool (decide (100 < (x21.bv.length : Int))))) rfl ?_)
        by_cases h28 : 100 < (x21.bv.length : Int)
        · -- 100 < (x21.bv.length : Int)
          refine s_off (b' := true) 30 rfl (congrArg Value.bool (decide_eq_true h28)) rfl ?_
          refine s_off (b' := true) 30 rfl (congrArg Value.bool (decide_eq_true h28)) rfl ?_
          refine s_off (b' := true) 30 rfl (congrArg Value.bool (decide_eq_true h28)) rfl ?_
          refine s_off (b' := true) 30 rfl (congrArg Value.bool (decide_eq_true h28)) rfl ?_
          refine s_off (b' := true) 30 rfl (congrArg Value.bool (decide_eq_true h28)) rfl ?_
          refine s_off (b' := true) 30 rfl (congrArg Value.bool (decide_eq_true h28)) rfl ?_
          refine s_off (b' := true) 30 rfl (congrArg Value.bool (decide_eq_true h28)) rfl ?_
          refine s_off (b' := true) 30 rfl (congrArg Value.bool (decide_eq_true h28)) rfl ?_
          refine s_op (o_pick_t (u := (.bool true)) ((rfl : _ = _).trans (congrArg Value.bool (decide_eq_true h28))) rfl ?_)
          refine s_nil ?_
          refine t_norm (hK17 _ _ ?_)
          refine c_true rfl rfl ?_
          refine wp_seq_k fun K29 hK29 => ?_
          refine c_region ?_
          refine s_op (o_assign (v := (.bool true)) rfl ?_)
          refine s_nil ?_
          refine t_norm (hK29 _ _ ?_)
          refine wp_ret ?_
          refine b_ret (t_ret (t_ret (b_ret (t_ret (c_ret1 Try.results15  (v := (.bool true)) rfl ?_)))))
          exact ⟨true, rfl, (fun g => by cases g), hH11⟩
        · -- not: 100 < (x21.bv.length : Int)
          refine s_on 30 rfl (congrArg Value.bool (decide_eq_false h28)) (o_move (v := v_l) e8_0 ?_)
          refine s_on 30 rfl (congrArg Value.bool (decide_eq_false h28)) (o_move (v := (.int .i64 (k : Int))) e8_3 ?_)
          refine s_on 30 rfl (congrArg Value.bool (decide_eq_false h28)) (o_indexF recC_len Try.underlying22 ti32 rfl h_l rfl rfl (by omega) hx22 fun b30 o31 hc32 => ?_)
          refine s_on 30 rfl (congrArg Value.bool (decide_eq_false h28)) (o_fieldAddr (k := o31 + 8) (fun _ => by kernel_rfl) rfl ?_)
          refine s_on 30 rfl (congrArg Value.bool (decide_eq_false h28)) (o_fieldAddr (k := o31 + 8 + 1) (fun _ => by kernel_rfl) rfl ?_)
          refine s_on 30 rfl (congrArg Value.bool (decide_eq_false h28)) (o_load1 (v := (S x21.av)) Try.underlying9 rfl rfl hH11 (seg_sub 0 rfl) (CellsAt.field (k := 1) (ds := [(S x21.av)]) (CellsAt.field (k := 8) (ds := [(.bool x21.ah), (S x21.av)]) hc32 rfl) rfl) ?_)
          refine s_on 30 rfl (congrArg Value.bool (decide_eq_false h28)) (o_slen Try.underlying9 rfl ?_)
          refine s_on 30 rfl (congrArg Value.bool (decide_eq_false h28)) (o_gtr (a := (x21.av.length : Int)) (b := 100) rfl rfl ?_)
          refine s_op (o_pick_f (u := (.bool (decide (100 < (x21.av.length : Int))))) ((rfl : _ = _).trans (congrArg Value.bool (decide_eq_false h28))) rfl ?_)
          refine s_nil ?_
          refine t_norm (hK17 _ _ ?_)
          refine c_cond rfl (fun h33 => ?_) (fun h33 => ?_)
          · -- 100 < (x21.av.length : Int)
            refine wp_seq_k fun K34 hK34 => ?_
            refine c_region ?_
            refine s_op (o_assign (v := (.bool true)) rfl ?_)
            refine s_nil ?_
            refine t_norm (hK34 _ _ ?_)
            refine wp_ret ?_
            refine b_ret (t_ret (t_ret (b_ret (t_ret (c_ret1 Try.results15  (v := (.bool true)) rfl ?_)))))
            exact ⟨true, rfl, (fun g => by cases g), hH11⟩
          · -- not: 100 < (x21.av.length : Int)
            refine wp_skip ?_
            refine b_norm ?_
            refine t_norm (hK16 _ _ ?_)
            refine c_region ?_
            refine s_op (o_move (v := (.int .i64 (k : Int))) e8_3 ?_)
            refine s_op (o_add (a := (k : Int)) (b := 1) rfl rfl (w64 (by omega) (by omega)) ?_)
            refine s_op (o_assign (v := (.int .i64 ((k : Int) + 1))) rfl ?_)
            refine s_nil ?_
            refine t_norm ⟨l.length - (k + 1), _, rfl, ?_, ?_⟩
            · omega
            · exact ⟨(k + 1), rfl, hH11, (by omega), e8_0, rfl, e8_6⟩
    · -- not: (k : Int) < ((l.length : Nat) : Int)
      refine wp_exit ?_
      refine t_exit (t_exit (x_in (?_)))
      refine t_norm (hK6 _ _ ?_)
      refine wp_seq_k fun K35 hK35 => ?_
      refine c_region ?_
      refine s_op (o_assign (v := (.bool false)) rfl ?_)
      refine s_nil ?_
      refine t_norm (hK35 _ _ ?_)
      refine wp_ret ?_
      refine c_ret1 Try.results15  (v := (.bool false)) rfl ?_
      exact ⟨false, rfl, (fun _ => by omega), hH11⟩
set_option maxHeartbeats 4000000 in
theorem awake17_c {E w : World} {R : List Hp}   (hH : Has E w [R]) :
    Calls Try.prog 16 #[] w fun e w' => e = .returned (.bool true) ∧ Has E w' [R] := by
  refine c_enter (args := []) Try.func16 rfl Try.ntmps16 (by simp) ?_
  refine wp_seq_k fun K1 hK1 => ?_
  refine c_region ?_
  refine s_op (o_assign (v := (.bool false)) rfl ?_)
  refine s_nil ?_
  refine t_norm (hK1 _ _ ?_)
  refine wp_seq_k fun K2 hK2 => ?_
  refine c_region ?_
  refine s_op (o_callf (vs := #[]) ca17 rfl (args0) (tnew_c hH.all ) ?_)
  rintro _ w8 ⟨b3, sg4, rfl, hd5, hX6⟩
  refine ⟨_, rfl, ?_⟩
  have hH7 : Has E w8 [sg4, R] := hX6.of_all1
  have hs9 := szK.nil
  have hk10 := TOk.nil
  refine s_op (o_assign (v := (.pointer (some ⟨b3, 0, none⟩))) rfl ?_)
  refine s_nil ?_
  refine t_norm (hK2 _ _ ?_)
  refine wp_seq_k fun K11 hK11 => ?_
  refine c_region ?_
  refine s_op (o_sight (v := (.agg #[(.bool true), (S [120])])) (fun _ => by kernel_rfl) ?_)
  refine s_op (o_sight (v := (.agg #[(.bool true), (S [121])])) (fun _ => by kernel_rfl) ?_)
  refine s_op (o_alloc (cs := #[(.bool false), (S ([] : List UInt8))]) ti30 rfl hH7 fun b12 w13 hH14 => ?_)
  refine s_op (o_alloc (cs := #[(.bool false), (S ([] : List UInt8))]) ti30 rfl hH14 fun b15 w16 hH17 => ?_)
  refine s_eff (o_storeN (vs := [(.bool true), (S [120])]) (c' := #[(.bool true), (S [120])]) ti30 rfl rfl rfl rfl (by intro u hu; simp only [List.mem_cons, List.not_mem_nil, or_false] at hu; rcases hu with rfl | rfl <;> first | rfl) (by simp) (by kernel_rfl) (hH17.front 1 rfl) fun w18 hH19 => ?_)
  refine s_eff (o_storeN (vs := [(.bool true), (S [121])]) (c' := #[(.bool true), (S [121])]) ti30 rfl rfl rfl rfl (by intro u hu; simp only [List.mem_cons, List.not_mem_nil, or_false] at hu; rcases hu with rfl | rfl <;> first | rfl) (by simp) (by kernel_rfl) (hH19.front 1 rfl) fun w20 hH21 => ?_)
  refine s_nil ?_
  refine t_norm (hK11 _ _ ?_)
  refine wp_seq_k fun K22 hK22 => ?_
  refine c_region ?_
  refine s_op (o_move (v := (.pointer (some ⟨b3, 0, none⟩))) rfl ?_)
  refine s_op (o_sight (v := (.agg #[(.int .i64 1), (.int .i64 1), (.int .i64 5), (.int .i64 0), (.int .i64 0), (S ([] : List UInt8)), (.bool false), (S ([] : List UInt8)), (.bool false), (S ([] : List UInt8)), (.int .i64 0)])) (fun _ => by kernel_rfl) ?_)
  refine s_op (o_loadN (cs := [(.bool true), (S [120])]) Try.underlying30 rfl ti30 rfl hH21 (seg_sub 1 rfl) (CellsAt.one rfl) ?_)
  refine s_op (o_sight (v := (.agg #[(.int .i64 2), (.int .i64 2), (.int .i64 5), (.int .i64 1), (.int .i64 0), (S [97]), (.bool false), (S ([] : List UInt8)), (.bool true), (S [120]), (.int .i64 0)])) (fun _ => by kernel_rfl) ?_)
  refine s_op (o_sight (v := (.agg #[(.int .i64 4), (.int .i64 4), (.int .i64 5), (.int .i64 2), (.int .i64 0), (S ([] : List UInt8)), (.bool false), (S ([] : List UInt8)), (.bool false), (S ([] : List UInt8)), (.int .i64 0)])) (fun _ => by kernel_rfl) ?_)
  refine s_op (o_loadN (cs := [(.bool true), (S [120])]) Try.underlying30 rfl ti30 rfl hH21 (seg_sub 1 rfl) (CellsAt.one rfl) ?_)
  refine s_op (o_loadN (cs := [(.bool true), (S [121])]) Try.underlying30 rfl ti30 rfl hH21 (seg_sub 0 rfl) (CellsAt.one rfl) ?_)
  refine s_op (o_sight (v := (.agg #[(.int .i64 2), (.int .i64 5), (.int .i64 5), (.int .i64 4), (.int .i64 0), (S [97]), (.bool true), (S [120]), (.bool true), (S [121]), (.int .i64 0)])) (fun _ => by kernel_rfl) ?_)
  refine s_op (o_buildSlice (ps := #[(0, (.agg #[(.int .i64 1), (.int .i64 1), (.int .i64 5), (.int .i64 0), (.int .i64 0), (S ([] : List UInt8)), (.bool false), (S ([] : List UInt8)), (.bool false), (S ([] : List UInt8)), (.int .i64 0)])), (1, (.agg #[(.int .i64 2), (.int .i64 2), (.int .i64 5), (.int .i64 1), (.int .i64 0), (S [97]), (.bool false), (S ([] : List UInt8)), (.bool true), (S [120]), (.int .i64 0)])), (2, (.agg #[(.int .i64 4), (.int .i64 4), (.int .i64 5), (.int .i64 2), (.int .i64 0), (S ([] : List UInt8)), (.bool false), (S ([] : List UInt8)), (.bool false), (S ([] : List UInt8)), (.int .i64 0)])), (3, (.agg #[(.int .i64 2), (.int .i64 5), (.int .i64 5), (.int .i64 4), (.int .i64 0), (S [97]), (.bool true), (S [120]), (.bool true), (S [121]), (.int .i64 0)]))]) (cells := #[(.int .i64 1), (.int .i64 1), (.int .i64 5), (.int .i64 0), (.int .i64 0), (S ([] : List UInt8)), (.bool false), (S ([] : List UInt8)), (.bool false), (S ([] : List UInt8)), (.int .i64 0), (.int .i64 2), (.int .i64 2), (.int .i64 5), (.int .i64 1), (.int .i64 0), (S [97]), (.bool false), (S ([] : List UInt8)), (.bool true), (S [120]), (.int .i64 0), (.int .i64 4), (.int .i64 4), (.int .i64 5), (.int .i64 2), (.int .i64 0), (S ([] : List UInt8)), (.bool false), (S ([] : List UInt8)), (.bool false), (S ([] : List UInt8)), (.int .i64 0), (.int .i64 2), (.int .i64 5), (.int .i64 5), (.int .i64 4), (.int .i64 0), (S [97]), (.bool true), (S [120]), (.bool true), (S [121]), (.int .i64 0)]) Try.underlying22 ti32 (by decide) (parts4 rfl rfl rfl rfl) (by kernel_rfl) hH21 fun b23 w24 hH25 => ?_)
  refine s_op (o_callf (vs := #[(.pointer (some ⟨b3, 0, none⟩)), (.int .i64 0), (.slice (some ⟨b23, 0, none⟩) 4 4)]) ca18 rfl (args3 rfl rfl rfl) (tnote_c (v := (⟨[]⟩ : TxnS)) (home := 0) (l := [(Rec.mk 1 1 5 0 0 ([] : List UInt8) false ([] : List UInt8) false ([] : List UInt8) 0), (Rec.mk 2 2 5 1 0 [97] false ([] : List UInt8) true [120] 0), (Rec.mk 4 4 5 2 0 ([] : List UInt8) false ([] : List UInt8) false ([] : List UInt8) 0), (Rec.mk 2 5 5 4 0 [97] true [120] true [121] 0)]) (hH25.front 3 rfl).all1 hd5 ((sl_litF (f := recC) (l := [(Rec.mk 1 1 5 0 0 ([] : List UInt8) false ([] : List UInt8) false ([] : List UInt8) 0), (Rec.mk 2 2 5 1 0 [97] false ([] : List UInt8) true [120] 0), (Rec.mk 4 4 5 2 0 ([] : List UInt8) false ([] : List UInt8) false ([] : List UInt8) 0), (Rec.mk 2 5 5 4 0 [97] true [120] true [121] 0)]) recC_len rfl rfl (by simp)).mono (seg_sub 0 rfl)) hs9 (by first | omega | (simp only [List.length_cons, List.length_nil]; omega) | (simp; omega))) ?_)
  rintro _ w30 ⟨sg26, rfl, hd27, hX28⟩
  refine ⟨_, rfl, ?_⟩
  have hH29 : Has E w30 [sg26, [Hp.one b23 (.cells #[(.int .i64 1), (.int .i64 1), (.int .i64 5), (.int .i64 0), (.int .i64 0), (S ([] : List UInt8)), (.bool false), (S ([] : List UInt8)), (.bool false), (S ([] : List UInt8)), (.int .i64 0), (.int .i64 2), (.int .i64 2), (.int .i64 5), (.int .i64 1), (.int .i64 0), (S [97]), (.bool false), (S ([] : List UInt8)), (.bool true), (S [120]), (.int .i64 0), (.int .i64 4), (.int .i64 4), (.int .i64 5), (.int .i64 2), (.int .i64 0), (S ([] : List UInt8)), (.bool false), (S ([] : List UInt8)), (.bool false), (S ([] : List UInt8)), (.int .i64 0), (.int .i64 2), (.int .i64 5), (.int .i64 5), (.int .i64 4), (.int .i64 0), (S [97]), (.bool true), (S [120]), (.bool true), (S [121]), (.int .i64 0)] 32 (0, 0))], [Hp.one b15 (.cells #[(.bool true), (S [121])] 30 (0, 0))], [Hp.one b12 (.cells #[(.bool true), (S [120])] 30 (0, 0))], R] := hX28.of_all1
  have hd27 : TtAt b3 sg26 (⟨(noteL 0 [] [(Rec.mk 1 1 5 0 0 ([] : List UInt8) false ([] : List UInt8) false ([] : List UInt8) 0), (Rec.mk 2 2 5 1 0 [97] false ([] : List UInt8) true [120] 0), (Rec.mk 4 4 5 2 0 ([] : List UInt8) false ([] : List UInt8) false ([] : List UInt8) 0), (Rec.mk 2 5 5 4 0 [97] true [120] true [121] 0)]).1⟩ : TxnS) := hd27
  have hs31 := hs9.noteL (home := 0) (l := [(Rec.mk 1 1 5 0 0 ([] : List UInt8) false ([] : List UInt8) false ([] : List UInt8) 0), (Rec.mk 2 2 5 1 0 [97] false ([] : List UInt8) true [120] 0), (Rec.mk 4 4 5 2 0 ([] : List UInt8) false ([] : List UInt8) false ([] : List UInt8) 0), (Rec.mk 2 5 5 4 0 [97] true [120] true [121] 0)])
  have hk32 := hk10.noteL (home := 0) (l := [(Rec.mk 1 1 5 0 0 ([] : List UInt8) false ([] : List UInt8) false ([] : List UInt8) 0), (Rec.mk 2 2 5 1 0 [97] false ([] : List UInt8) true [120] 0), (Rec.mk 4 4 5 2 0 ([] : List UInt8) false ([] : List UInt8) false ([] : List UInt8) 0), (Rec.mk 2 5 5 4 0 [97] true [120] true [121] 0)])
  have hd33 : TtAt b3 sg26 (⟨awT17⟩ : TxnS) := by have h9_ := hd27; exact h9_
  have hs34 : szK awT17 4 := hs31
  have hk35 : TOk awT17 := hk32
  refine s_op (o_assign (v := (.int .i64 ((noteL 0 [] [(Rec.mk 1 1 5 0 0 ([] : List UInt8) false ([] : List UInt8) false ([] : List UInt8) 0), (Rec.mk 2 2 5 1 0 [97] false ([] : List UInt8) true [120] 0), (Rec.mk 4 4 5 2 0 ([] : List UInt8) false ([] : List UInt8) false ([] : List UInt8) 0), (Rec.mk 2 5 5 4 0 [97] true [120] true [121] 0)]).2))) rfl ?_)
  refine s_nil ?_
  refine t_norm (hK22 _ _ ?_)
  refine wp_seq_k fun K36 hK36 => ?_
  refine c_region ?_
  refine s_op (o_move (v := (.pointer (some ⟨b3, 0, none⟩))) rfl ?_)
  refine s_op (o_buildSlice (ps := #[(0, (.int .i64 0))]) (cells := #[(.int .i64 0)]) Try.underlying54 ti3 (by decide) (parts1 rfl) (by kernel_rfl) hH29 fun b37 w38 hH39 => ?_)
  refine s_op (o_callf (vs := #[(.pointer (some ⟨b3, 0, none⟩)), (.int .i64 5), (.slice (some ⟨b37, 0, none⟩) 1 1)]) ca20 rfl (args3 rfl rfl rfl) (tback_c (v := (⟨awT17⟩ : TxnS)) (id := 5) (no := [0]) hH39.all (hd33.rd.mono (seg_sub 1 rfl)) ((sl_lit (f := iV) (l := [0]) rfl rfl (by simp)).mono (seg_sub 0 rfl)) (hs34.mono (by first | omega | (simp only [List.length_cons, List.length_nil]; omega) | (simp; omega))) hk35 (by first | decide | omega | simp)) ?_)
  rintro _ w45 ⟨v40, s41, rfl, ho42, hX43⟩
  refine ⟨_, rfl, ?_⟩
  have hH44 : Has E w45 [s41, [Hp.one b37 (.cells #[(.int .i64 0)] 3 (0, 0))], sg26, [Hp.one b23 (.cells #[(.int .i64 1), (.int .i64 1), (.int .i64 5), (.int .i64 0), (.int .i64 0), (S ([] : List UInt8)), (.bool false), (S ([] : List UInt8)), (.bool false), (S ([] : List UInt8)), (.int .i64 0), (.int .i64 2), (.int .i64 2), (.int .i64 5), (.int .i64 1), (.int .i64 0), (S [97]), (.bool false), (S ([] : List UInt8)), (.bool true), (S [120]), (.int .i64 0), (.int .i64 4), (.int .i64 4), (.int .i64 5), (.int .i64 2), (.int .i64 0), (S ([] : List UInt8)), (.bool false), (S ([] : List UInt8)), (.bool false), (S ([] : List UInt8)), (.int .i64 0), (.int .i64 2), (.int .i64 5), (.int .i64 5), (.int .i64 4), (.int .i64 0), (S [97]), (.bool true), (S [120]), (.bool true), (S [121]), (.int .i64 0)] 32 (0, 0))], [Hp.one b15 (.cells #[(.bool true), (S [121])] 30 (0, 0))], [Hp.one b12 (.cells #[(.bool true), (S [120])] 30 (0, 0))], R] := hX43.of_all1
  have ho42 : Own 32 11 v40 ((backT awT17 5 [0]).1).length (((backT awT17 5 [0]).1).flatMap recC) s41 := ho42
  refine s_op (o_move (v := (.tuple #[v40, (.int .i64 ((backT awT17 5 [0]).2))])) rfl ?_)
  refine s_op (o_extract (v := v40) rfl rfl ?_)
  refine s_op (o_extract (v := (.int .i64 ((backT awT17 5 [0]).2))) rfl rfl ?_)
  refine s_op (o_assign (v := v40) rfl ?_)
  refine s_op (o_assign (v := (.int .i64 ((backT awT17 5 [0]).2))) rfl ?_)
  refine s_nil ?_
  refine t_norm (hK36 _ _ ?_)
  refine wp_seq_k fun K46 hK46 => ?_
  refine c_region ?_
  refine s_op (o_move (v := (.pointer (some ⟨b3, 0, none⟩))) rfl ?_)
  refine s_op (o_callf (vs := #[(.pointer (some ⟨b3, 0, none⟩)), (.int .i64 5), (.slice none 0 0)]) ca20 rfl (args3 rfl rfl rfl) (tback_c (v := (⟨awT17⟩ : TxnS)) (id := 5) (no := ([] : List Int)) hH44.all (hd33.rd.mono (seg_sub 2 rfl)) (sl_nil 1) (hs34.mono (by first | omega | (simp only [List.length_cons, List.length_nil]; omega) | (simp; omega))) hk35 (by first | decide | omega | simp)) ?_)
  rintro _ w52 ⟨v47, s48, rfl, ho49, hX50⟩
  refine ⟨_, rfl, ?_⟩
  have hH51 : Has E w52 [s48, s41, [Hp.one b37 (.cells #[(.int .i64 0)] 3 (0, 0))], sg26, [Hp.one b23 (.cells #[(.int .i64 1), (.int .i64 1), (.int .i64 5), (.int .i64 0), (.int .i64 0), (S ([] : List UInt8)), (.bool false), (S ([] : List UInt8)), (.bool false), (S ([] : List UInt8)), (.int .i64 0), (.int .i64 2), (.int .i64 2), (.int .i64 5), (.int .i64 1), (.int .i64 0), (S [97]), (.bool false), (S ([] : List UInt8)), (.bool true), (S [120]), (.int .i64 0), (.int .i64 4), (.int .i64 4), (.int .i64 5), (.int .i64 2), (.int .i64 0), (S ([] : List UInt8)), (.bool false), (S ([] : List UInt8)), (.bool false), (S ([] : List UInt8)), (.int .i64 0), (.int .i64 2), (.int .i64 5), (.int .i64 5), (.int .i64 4), (.int .i64 0), (S [97]), (.bool true), (S [120]), (.bool true), (S [121]), (.int .i64 0)] 32 (0, 0))], [Hp.one b15 (.cells #[(.bool true), (S [121])] 30 (0, 0))], [Hp.one b12 (.cells #[(.bool true), (S [120])] 30 (0, 0))], R] := hX50.of_all1
  have ho49 : Own 32 11 v47 ((backT awT17 5 ([] : List Int)).1).length (((backT awT17 5 ([] : List Int)).1).flatMap recC) s48 := ho49
  refine s_op (o_move (v := (.tuple #[v47, (.int .i64 ((backT awT17 5 ([] : List Int)).2))])) rfl ?_)
  refine s_op (o_extract (v := v47) rfl rfl ?_)
  refine s_op (o_extract (v := (.int .i64 ((backT awT17 5 ([] : List Int)).2))) rfl rfl ?_)
  refine s_op (o_assign (v := v47) rfl ?_)
  refine s_op (o_assign (v := (.int .i64 ((backT awT17 5 ([] : List Int)).2))) rfl ?_)
  refine s_nil ?_
  refine t_norm (hK46 _ _ ?_)
  refine wp_seq_k fun K53 hK53 => ?_
  refine c_region ?_
  refine s_op (o_move (v := (.int .i64 ((noteL 0 [] [(Rec.mk 1 1 5 0 0 ([] : List UInt8) false ([] : List UInt8) false ([] : List UInt8) 0), (Rec.mk 2 2 5 1 0 [97] false ([] : List UInt8) true [120] 0), (Rec.mk 4 4 5 2 0 ([] : List UInt8) false ([] : List UInt8) false ([] : List UInt8) 0), (Rec.mk 2 5 5 4 0 [97] true [120] true [121] 0)]).2))) rfl ?_)
  refine s_op (o_eql (a := (noteL 0 [] [(Rec.mk 1 1 5 0 0 ([] : List UInt8) false ([] : List UInt8) false ([] : List UInt8) 0), (Rec.mk 2 2 5 1 0 [97] false ([] : List UInt8) true [120] 0), (Rec.mk 4 4 5 2 0 ([] : List UInt8) false ([] : List UInt8) false ([] : List UInt8) 0), (Rec.mk 2 5 5 4 0 [97] true [120] true [121] 0)]).2) (b := 0) rfl rfl ?_)
  refine s_op (o_move (v := (.bool (decide ((noteL 0 [] [(Rec.mk 1 1 5 0 0 ([] : List UInt8) false ([] : List UInt8) false ([] : List UInt8) 0), (Rec.mk 2 2 5 1 0 [97] false ([] : List UInt8) true [120] 0), (Rec.mk 4 4 5 2 0 ([] : List UInt8) false ([] : List UInt8) false ([] : List UInt8) 0), (Rec.mk 2 5 5 4 0 [97] true [120] true [121] 0)]).2 = 0)))) rfl ?_)
  by_cases h54 : (noteL 0 [] [(Rec.mk 1 1 5 0 0 ([] : List UInt8) false ([] : List UInt8) false ([] : List UInt8) 0), (Rec.mk 2 2 5 1 0 [97] false ([] : List UInt8) true [120] 0), (Rec.mk 4 4 5 2 0 ([] : List UInt8) false ([] : List UInt8) false ([] : List UInt8) 0), (Rec.mk 2 5 5 4 0 [97] true [120] true [121] 0)]).2 = 0
  · -- (noteL 0 [] [(Rec.mk 1 1 5 0 0 ([] : List UInt8) false ([] : List UInt8) false ([] : List UInt8) 0), (Rec.mk 2 2 5 1 0 [97] false ([] : List UInt8) true [120] 0), (Rec.mk 4 4 5 2 0 ([] : List UInt8) false ([] : List UInt8) false ([] : List UInt8) 0), (Rec.mk 2 5 5 4 0 [97] true [120] true [121] 0)]).2 = 0
    refine s_on 35 rfl (congrArg Value.bool (decide_eq_true h54)) (o_move (v := (.int .i64 ((backT awT17 5 [0]).2))) rfl ?_)
    refine s_on 35 rfl (congrArg Value.bool (decide_eq_true h54)) (o_eql (a := (backT awT17 5 [0]).2) (b := 0) rfl rfl ?_)
    refine s_op (o_pick_t (u := (.bool (decide ((backT awT17 5 [0]).2 = 0)))) ((rfl : _ = _).trans (congrArg Value.bool (decide_eq_true h54))) rfl ?_)
    refine s_op (o_move (v := (.bool (decide ((backT awT17 5 [0]).2 = 0)))) rfl ?_)
    by_cases h55 : (backT awT17 5 [0]).2 = 0
    · -- (backT awT17 5 [0]).2 = 0
      refine s_on 39 rfl (congrArg Value.bool (decide_eq_true h55)) (o_move (v := v40) rfl ?_)
      refine s_on 39 rfl (congrArg Value.bool (decide_eq_true h55)) (o_lenS Try.underlying22 rfl ho42.sl ?_)
      refine s_on 39 rfl (congrArg Value.bool (decide_eq_true h55)) (o_eql (a := ((((backT awT17 5 [0]).1).length : Nat) : Int)) (b := 1) rfl rfl ?_)
      refine s_op (o_pick_t (u := (.bool (decide (((((backT awT17 5 [0]).1).length : Nat) : Int) = 1)))) ((rfl : _ = _).trans (congrArg Value.bool (decide_eq_true h55))) rfl ?_)
      refine s_op (o_move (v := (.bool (decide (((((backT awT17 5 [0]).1).length : Nat) : Int) = 1)))) rfl ?_)
      by_cases h56 : ((((backT awT17 5 [0]).1).length : Nat) : Int) = 1
      · -- ((((backT awT17 5 [0]).1).length : Nat) : Int) = 1
        refine s_on 44 rfl (congrArg Value.bool (decide_eq_true h56)) (o_move (v := v40) rfl ?_)
        obtain ⟨x60, hx61⟩ : ∃ x_, ((backT awT17 5 [0]).1)[((0 : Int)).toNat]? = some x_ := get_some (by first | (have h_ := aw17_a; omega) | (have h_ := aw17_b; omega))
        refine s_on 44 rfl (congrArg Value.bool (decide_eq_true h56)) (o_indexF recC_len Try.underlying22 ti32 rfl ho42.sl rfl rfl (by omega) hx61 fun b57 o58 hc59 => ?_)
        refine s_on 44 rfl (congrArg Value.bool (decide_eq_true h56)) (o_fieldAddr (k := o58 + 1) (fun _ => by kernel_rfl) rfl ?_)
        refine s_on 44 rfl (congrArg Value.bool (decide_eq_true h56)) (o_load1 (v := (.int .i64 x60.gsn)) Try.underlying3 rfl rfl hH51 (seg_sub 1 rfl) (CellsAt.field (k := 1) (ds := [(.int .i64 x60.gsn)]) hc59 rfl) ?_)
        refine s_on 44 rfl (congrArg Value.bool (decide_eq_true h56)) (o_eql (a := x60.gsn) (b := 5) rfl rfl ?_)
        refine s_op (o_pick_t (u := (.bool (decide (x60.gsn = 5)))) ((rfl : _ = _).trans (congrArg Value.bool (decide_eq_true h56))) rfl ?_)
        refine s_op (o_move (v := (.bool (decide (x60.gsn = 5)))) rfl ?_)
        by_cases h62 : x60.gsn = 5
        · -- x60.gsn = 5
          refine s_on 51 rfl (congrArg Value.bool (decide_eq_true h62)) (o_move (v := (.int .i64 ((backT awT17 5 ([] : List Int)).2))) rfl ?_)
          refine s_on 51 rfl (congrArg Value.bool (decide_eq_true h62)) (o_eql (a := (backT awT17 5 ([] : List Int)).2) (b := 0) rfl rfl ?_)
          refine s_op (o_pick_t (u := (.bool (decide ((backT awT17 5 ([] : List Int)).2 = 0)))) ((rfl : _ = _).trans (congrArg Value.bool (decide_eq_true h62))) rfl ?_)
          refine s_op (o_move (v := (.bool (decide ((backT awT17 5 ([] : List Int)).2 = 0)))) rfl ?_)
          by_cases h63 : (backT awT17 5 ([] : List Int)).2 = 0
          · -- (backT awT17 5 ([] : List Int)).2 = 0
            refine s_on 55 rfl (congrArg Value.bool (decide_eq_true h63)) (o_move (v := v47) rfl ?_)
            refine s_on 55 rfl (congrArg Value.bool (decide_eq_true h63)) (o_lenS Try.underlying22 rfl ho49.sl ?_)
            refine s_on 55 rfl (congrArg Value.bool (decide_eq_true h63)) (o_eql (a := ((((backT awT17 5 ([] : List Int)).1).length : Nat) : Int)) (b := 2) rfl rfl ?_)
            refine s_op (o_pick_t (u := (.bool (decide (((((backT awT17 5 ([] : List Int)).1).length : Nat) : Int) = 2)))) ((rfl : _ = _).trans (congrArg Value.bool (decide_eq_true h63))) rfl ?_)
            refine s_op (o_move (v := (.bool (decide (((((backT awT17 5 ([] : List Int)).1).length : Nat) : Int) = 2)))) rfl ?_)
            by_cases h64 : ((((backT awT17 5 ([] : List Int)).1).length : Nat) : Int) = 2
            · -- ((((backT awT17 5 ([] : List Int)).1).length : Nat) : Int) = 2
              refine s_on 60 rfl (congrArg Value.bool (decide_eq_true h64)) (o_move (v := v47) rfl ?_)
              obtain ⟨x68, hx69⟩ : ∃ x_, ((backT awT17 5 ([] : List Int)).1)[((1 : Int)).toNat]? = some x_ := get_some (by first | (have h_ := aw17_a; omega) | (have h_ := aw17_b; omega))
              refine s_on 60 rfl (congrArg Value.bool (decide_eq_true h64)) (o_indexF recC_len Try.underlying22 ti32 rfl ho49.sl rfl rfl (by omega) hx69 fun b65 o66 hc67 => ?_)
              refine s_on 60 rfl (congrArg Value.bool (decide_eq_true h64)) (o_fieldAddr (k := o66 + 1) (fun _ => by kernel_rfl) rfl ?_)
              refine s_on 60 rfl (congrArg Value.bool (decide_eq_true h64)) (o_load1 (v := (.int .i64 x68.gsn)) Try.underlying3 rfl rfl hH51 (seg_sub 0 rfl) (CellsAt.field (k := 1) (ds := [(.int .i64 x68.gsn)]) hc67 rfl) ?_)
              refine s_on 60 rfl (congrArg Value.bool (decide_eq_true h64)) (o_eql (a := x68.gsn) (b := 2) rfl rfl ?_)
              refine s_op (o_pick_t (u := (.bool (decide (x68.gsn = 2)))) ((rfl : _ = _).trans (congrArg Value.bool (decide_eq_true h64))) rfl ?_)
              refine s_op (o_assign (v := (.bool (decide (x68.gsn = 2)))) rfl ?_)
              refine s_nil ?_
              refine t_norm (hK53 _ _ ?_)
              refine wp_ret ?_
              refine c_ret1 Try.results16  (v := (.bool (decide (x68.gsn = 2)))) rfl ?_
              have hH70 : Has E w52 [R] := (hH51.front 7 rfl).first 1 rfl
              exact ⟨by first | rfl | (simp; done) | (exact congrArg _ (congrArg _ (decide_eq_true (aw17_b1 hx69)))), hH70⟩
            · -- not: ((((backT awT17 5 ([] : List Int)).1).length : Nat) : Int) = 2
              exact absurd (by first | exact aw17_e | exact aw17_f | exact aw17_g | exact_mod_cast aw17_a | exact_mod_cast aw17_b | exact aw17_a0 hx61 | exact aw17_b1 hx61) h64
          · -- not: (backT awT17 5 ([] : List Int)).2 = 0
            exact absurd (by first | exact aw17_e | exact aw17_f | exact aw17_g | exact_mod_cast aw17_a | exact_mod_cast aw17_b | exact aw17_a0 hx61 | exact aw17_b1 hx61) h63
        · -- not: x60.gsn = 5
          exact absurd (by first | exact aw17_e | exact aw17_f | exact aw17_g | exact_mod_cast aw17_a | exact_mod_cast aw17_b | exact aw17_a0 hx61 | exact aw17_b1 hx61) h62
      · -- not: ((((backT awT17 5 [0]).1).length : Nat) : Int) = 1
        exact absurd (by first | exact aw17_e | exact aw17_f | exact aw17_g | exact_mod_cast aw17_a | exact_mod_cast aw17_b) h56
    · -- not: (backT awT17 5 [0]).2 = 0
      exact absurd (by first | exact aw17_e | exact aw17_f | exact aw17_g | exact_mod_cast aw17_a | exact_mod_cast aw17_b) h55
  · -- not: (noteL 0 [] [(Rec.mk 1 1 5 0 0 ([] : List UInt8) false ([] : List UInt8) false ([] : List UInt8) 0), (Rec.mk 2 2 5 1 0 [97] false ([] : List UInt8) true [120] 0), (Rec.mk 4 4 5 2 0 ([] : List UInt8) false ([] : List UInt8) false ([] : List UInt8) 0), (Rec.mk 2 5 5 4 0 [97] true [120] true [121] 0)]).2 = 0
    exact absurd (by first | exact aw17_e | exact aw17_f | exact aw17_g | exact_mod_cast aw17_a | exact_mod_cast aw17_b) h54
end Go.Q
namespace Go.Q
open Go.Proofs
set_option linter.unusedVariables false
set_option maxRecDepth 100000
attribute [local irreducible] wpList OK Code.wp
set_option maxHeartbeats 4000000 in
theorem TxnBack_c {E w : World} {R : List Hp} {v_l : Value} {l : List Rec} {id : Int} {no : Int}  (hH : Has E w [R]) (h_l : Sl R 11 v_l l.length (l.flatMap recC)) :
    Calls Try.prog 4 #[v_l, (.int .i64 id), (.int .i64 no)] w fun e w' => e = .returned (.bool true) ∧ Has E w' [R] := by
  have hn_ := h_l.le
  refine c_enter (args := [v_l, (.int .i64 id), (.int .i64 no)]) Try.func4 rfl Try.ntmps4 (by simp) ?_
  refine wp_seq_k fun K1 hK1 => ?_
  refine c_region ?_
  refine s_op (o_assign (v := (.bool false)) rfl ?_)
  refine s_nil ?_
  refine t_norm (hK1 _ _ ?_)
  refine wp_seq_k fun K2 hK2 => ?_
  refine wp_seq_k fun K3 hK3 => ?_
  refine c_region ?_
  refine s_op (o_move (v := v_l) rfl ?_)
  refine s_op (o_callf (vs := #[v_l]) ca15 rfl (args1 rfl) (great17_c (l := l) hH.all (h_l.mono (seg_sub 0 rfl))) ?_)
  rintro _ w8 ⟨gb_4, rfl, hg_5, hX6⟩
  refine ⟨_, rfl, ?_⟩
  have hH7 : Has E w8 [R] := hX6.of_all
  refine s_op (o_move (v := (.bool gb_4)) rfl ?_)
  rcases Bool.eq_false_or_eq_true gb_4 with h9 | h9
  · -- gb_4
    refine s_off (b' := true) 22 rfl (congrArg Value.bool h9) rfl ?_
    refine s_off (b' := true) 22 rfl (congrArg Value.bool h9) rfl ?_
    refine s_op (o_pick_t (u := (.bool true)) ((rfl : _ = _).trans (congrArg Value.bool h9)) rfl ?_)
    refine s_nil ?_
    refine t_norm (hK3 _ _ ?_)
    refine c_true rfl rfl ?_
    refine wp_seq_k fun K10 hK10 => ?_
    refine c_region ?_
    refine s_op (o_callf (vs := #[]) ca16 rfl (args0) (awake17_c hH7.all ) ?_)
    rintro _ w13 ⟨rfl, hX11⟩
    refine ⟨_, rfl, ?_⟩
    have hH12 := hX11.of_all
    refine s_op (o_assign (v := (.bool true)) rfl ?_)
    refine s_nil ?_
    refine t_norm (hK10 _ _ ?_)
    refine wp_ret ?_
    refine t_ret (c_ret1 Try.results4  (v := (.bool true)) rfl ?_)
    exact ⟨by first | rfl | (rw [hbe_]; rfl) | (simp; done), hH12⟩
  · -- not: gb_4
    have hg_ := hg_5 h9
    refine s_on 22 rfl (congrArg Value.bool h9) (o_callf (vs := #[]) ca16 rfl (args0) (awake17_c hH7.all ) ?_)
    rintro _ w16 ⟨rfl, hX14⟩
    refine ⟨_, rfl, ?_⟩
    have hH15 := hX14.of_all
    refine s_on 22 rfl (congrArg Value.bool h9) (o_not rfl ?_)
    refine s_op (o_pick_f (u := (.bool false)) ((rfl : _ = _).trans (congrArg Value.bool h9)) rfl ?_)
    refine s_nil ?_
    refine t_norm (hK3 _ _ ?_)
    refine c_false rfl rfl ?_
    refine wp_skip ?_
    refine t_norm (hK2 _ _ ?_)
    refine wp_seq_k fun K17 hK17 => ?_
    refine c_region ?_
    refine s_op (o_callf (vs := #[]) ca17 rfl (args0) (tnew_c hH15.all ) ?_)
    rintro _ w23 ⟨b18, sg19, rfl, hd20, hX21⟩
    refine ⟨_, rfl, ?_⟩
    have hH22 : Has E w23 [sg19, R] := hX21.of_all1
    have hs24 := szK.nil
    have hk25 := TOk.nil
    refine s_op (o_assign (v := (.pointer (some ⟨b18, 0, none⟩))) rfl ?_)
    refine s_nil ?_
    refine t_norm (hK17 _ _ ?_)
    refine wp_seq_k fun K26 hK26 => ?_
    refine wp_seq_k fun K27 hK27 => ?_
    refine c_region ?_
    refine s_op (o_assign (v := (.int .i64 0)) rfl ?_)
    refine s_nil ?_
    refine t_norm (hK27 _ _ ?_)
    refine wp_block ?_
    let I29 : Nat → (Nat → Value) → World → Prop := fun n__ r__ w__ => ∃ (k : Nat) (t2 : KTab) (sg2 : List Hp), n__ = l.length - k ∧ Has E w__ [sg2, R] ∧ (k ≤ l.length) ∧ (TtAt b18 sg2 (⟨t2⟩ : TxnS)) ∧ (szK t2 k) ∧ (TOk t2) ∧ r__ 0 = v_l ∧ r__ 1 = (.int .i64 id) ∧ r__ 2 = (.int .i64 no) ∧ r__ 6 = (.bool false) ∧ r__ 7 = (.pointer (some ⟨b18, 0, none⟩)) ∧ r__ 8 = (.int .i64 (k : Int)) ∧ r__ 25 = (.bool false)
    refine c_loop I29 _ ⟨0, [], sg19, rfl, hH22, Nat.zero_le _, hd20, hs24, hk25, rfl, rfl, rfl, rfl, rfl, rfl, rfl⟩ ?_
    rintro n_ r32 w30 ⟨k, t2, sg2, rfl, hH31, hk, ht2, hs2, hk2, e28_0, e28_1, e28_2, e28_6, e28_7, e28_8, e28_25⟩
    refine wp_seq_k fun K33 hK33 => ?_
    refine wp_seq_k fun K34 hK34 => ?_
    refine c_region ?_
    refine s_op (o_move (v := (.int .i64 (k : Int))) e28_8 ?_)
    refine s_op (o_move (v := v_l) e28_0 ?_)
    refine s_op (o_lenS Try.underlying22 rfl h_l ?_)
    refine s_op (o_lss (a := (k : Int)) (b := ((l.length : Nat) : Int)) rfl rfl ?_)
    refine s_nil ?_
    refine t_norm (hK34 _ _ ?_)
    refine c_cond rfl (fun h35 => ?_) (fun h35 => ?_)
    · -- (k : Int) < ((l.length : Nat) : Int)
      refine wp_skip ?_
      refine t_norm (hK33 _ _ ?_)
      refine wp_seq_k fun K36 hK36 => ?_
      refine wp_block ?_
      refine c_region ?_
      refine s_op (o_move (v := (.pointer (some ⟨b18, 0, none⟩))) e28_7 ?_)
      refine s_op (o_move (v := v_l) e28_0 ?_)
      refine s_op (o_move (v := (.int .i64 (k : Int))) e28_8 ?_)
      obtain ⟨x40, hx41⟩ : ∃ x_, l[((k : Int)).toNat]? = some x_ := get_some (by omega)
      refine s_op (o_indexF recC_len Try.underlying22 ti32 rfl h_l rfl rfl (by omega) hx41 fun b37 o38 hc39 => ?_)
      refine s_op (o_loadN (cs := [(.int .i64 x40.kind), (.int .i64 x40.gsn), (.int .i64 x40.txn), (.int .i64 x40.prev), (.int .i64 x40.page), (S x40.key), (.bool x40.bh), (S x40.bv), (.bool x40.ah), (S x40.av), (.int .i64 x40.undo)]) Try.underlying32 rfl ti32 rfl hH31 (seg_sub 1 rfl) hc39 ?_)
      refine s_op (o_buildSlice (ps := #[(0, (.agg #[(.int .i64 x40.kind), (.int .i64 x40.gsn), (.int .i64 x40.txn), (.int .i64 x40.prev), (.int .i64 x40.page), (S x40.key), (.bool x40.bh), (S x40.bv), (.bool x40.ah), (S x40.av), (.int .i64 x40.undo)]))]) (cells := #[(.int .i64 x40.kind), (.int .i64 x40.gsn), (.int .i64 x40.txn), (.int .i64 x40.prev), (.int .i64 x40.page), (S x40.key), (.bool x40.bh), (S x40.bv), (.bool x40.ah), (S x40.av), (.int .i64 x40.undo)]) Try.underlying22 ti32 (by decide) (parts1 rfl) (by kernel_rfl) hH31 fun b42 w43 hH44 => ?_)
      refine s_op (o_callf (vs := #[(.pointer (some ⟨b18, 0, none⟩)), (.int .i64 0), (.slice (some ⟨b42, 0, none⟩) 1 1)]) ca18 rfl (args3 rfl rfl rfl) (tnote_c (v := (⟨t2⟩ : TxnS)) (home := 0) (l := [x40]) (hH44.front 1 rfl).all1 ht2 ((sl_litF (f := recC) (l := [x40]) recC_len rfl rfl (by simp)).mono (seg_sub 0 rfl)) hs2 (by first | omega | (simp only [List.length_cons, List.length_nil]; omega) | (simp; omega))) ?_)
      rintro _ w49 ⟨sg45, rfl, hd46, hX47⟩
      refine ⟨_, rfl, ?_⟩
      have hH48 : Has E w49 [sg45, [Hp.one b42 (.cells #[(.int .i64 x40.kind), (.int .i64 x40.gsn), (.int .i64 x40.txn), (.int .i64 x40.prev), (.int .i64 x40.page), (S x40.key), (.bool x40.bh), (S x40.bv), (.bool x40.ah), (S x40.av), (.int .i64 x40.undo)] 32 (0, 0))], R] := hX47.of_all1
      have hd46 : TtAt b18 sg45 (⟨(noteL 0 t2 [x40]).1⟩ : TxnS) := hd46
      have hs50 := hs2.noteL (home := 0) (l := [x40])
      have hk51 := hk2.noteL (home := 0) (l := [x40])
      refine s_nil ?_
      refine b_norm ?_
      refine t_norm (hK36 _ _ ?_)
      refine c_region ?_
      refine s_op (o_move (v := (.int .i64 (k : Int))) e28_8 ?_)
      refine s_op (o_add (a := (k : Int)) (b := 1) rfl rfl (w64 (by omega) (by omega)) ?_)
      refine s_op (o_assign (v := (.int .i64 ((k : Int) + 1))) rfl ?_)
      refine s_nil ?_
      have hH52 : Has E w49 [sg45, R] := ((hH48.front 2 rfl).front 1 rfl).first 2 rfl
      refine t_norm ⟨l.length - (k + 1), _, rfl, ?_, ?_⟩
      · omega
      · exact ⟨(k + 1), ((noteL 0 t2 [x40]).1), sg45, rfl, hH52, (by omega), (hd46), (hs50), (hk51), e28_0, e28_1, e28_2, e28_6, e28_7, rfl, e28_25⟩
    · -- not: (k : Int) < ((l.length : Nat) : Int)
      refine wp_exit ?_
      refine t_exit (t_exit (x_in (?_)))
      refine t_norm (hK26 _ _ ?_)
      refine wp_seq_k fun K53 hK53 => ?_
      refine c_region ?_
      refine s_op (o_move (v := (.pointer (some ⟨b18, 0, none⟩))) e28_7 ?_)
      refine s_op (o_move (v := (.int .i64 id)) e28_1 ?_)
      refine s_op (o_move (v := (.int .i64 no)) e28_2 ?_)
      refine s_op (o_buildSlice (ps := #[(0, (.int .i64 no))]) (cells := #[(.int .i64 no)]) Try.underlying54 ti3 (by decide) (parts1 rfl) (by kernel_rfl) hH31 fun b54 w55 hH56 => ?_)
      refine s_op (o_callf (vs := #[(.pointer (some ⟨b18, 0, none⟩)), (.int .i64 id), (.slice (some ⟨b54, 0, none⟩) 1 1)]) ca20 rfl (args3 rfl rfl rfl) (tback_c (v := (⟨t2⟩ : TxnS)) (id := id) (no := [no]) hH56.all (ht2.rd.mono (seg_sub 1 rfl)) ((sl_lit (f := iV) (l := [no]) rfl rfl (by simp)).mono (seg_sub 0 rfl)) (hs2.mono (by first | omega | (simp only [List.length_cons, List.length_nil]; omega) | (simp; omega))) hk2 (by first | decide | omega | simp)) ?_)
      rintro _ w62 ⟨v57, s58, rfl, ho59, hX60⟩
      refine ⟨_, rfl, ?_⟩
      have hH61 : Has E w62 [s58, [Hp.one b54 (.cells #[(.int .i64 no)] 3 (0, 0))], sg2, R] := hX60.of_all1
      have ho59 : Own 32 11 v57 ((backT t2 id [no]).1).length (((backT t2 id [no]).1).flatMap recC) s58 := ho59
      refine s_op (o_move (v := (.tuple #[v57, (.int .i64 ((backT t2 id [no]).2))])) rfl ?_)
      refine s_op (o_extract (v := v57) rfl rfl ?_)
      refine s_op (o_extract (v := (.int .i64 ((backT t2 id [no]).2))) rfl rfl ?_)
      refine s_op (o_assign (v := v57) rfl ?_)
      refine s_op (o_assign (v := (.int .i64 ((backT t2 id [no]).2))) rfl ?_)
      refine s_nil ?_
      refine t_norm (hK53 _ _ ?_)
      refine wp_seq_k fun K63 hK63 => ?_
      refine c_region ?_
      refine s_op (o_move (v := (.pointer (some ⟨b18, 0, none⟩))) e28_7 ?_)
      refine s_op (o_move (v := (.int .i64 id)) e28_1 ?_)
      refine s_op (o_callf (vs := #[(.pointer (some ⟨b18, 0, none⟩)), (.int .i64 id)]) ca19 rfl (args2 rfl rfl) (tget_c (v := (⟨t2⟩ : TxnS)) (id := id) hH61.all (ht2.rd.mono (seg_sub 2 rfl)) (hs2.mono (by first | omega | (simp only [List.length_cons, List.length_nil]; omega) | (simp; omega)))) ?_)
      rintro _ w72 ⟨v64, s65, v67, s68, rfl, ho66, ho69, hX70⟩
      refine ⟨_, rfl, ?_⟩
      have hH71 : Has E w72 [s65, s68, s58, [Hp.one b54 (.cells #[(.int .i64 no)] 3 (0, 0))], sg2, R] := hX70.of_all2
      have ho66 : Own 32 11 v64 (((getB t2 id).map (·.changes)).getD []).length ((((getB t2 id).map (·.changes)).getD []).flatMap recC) s65 := ho66
      have ho69 : Own 39 2 v67 (((getB t2 id).map (·.places)).getD []).length ((((getB t2 id).map (·.places)).getD []).flatMap tmC) s68 := ho69
      refine s_op (o_move (v := (.tuple #[(.agg #[(.int .i64 (((getB t2 id).map (·.id)).getD 0)), (.int .i64 (((getB t2 id).map (·.home)).getD 0)), (.int .i64 (((getB t2 id).map (·.first)).getD 0)), (.int .i64 (((getB t2 id).map (·.last)).getD 0)), (.int .i64 (((getB t2 id).map (·.state)).getD 0)), v64, v67]), (.bool ((getB t2 id).isSome))])) rfl ?_)
      refine s_op (o_extract (v := (.agg #[(.int .i64 (((getB t2 id).map (·.id)).getD 0)), (.int .i64 (((getB t2 id).map (·.home)).getD 0)), (.int .i64 (((getB t2 id).map (·.first)).getD 0)), (.int .i64 (((getB t2 id).map (·.last)).getD 0)), (.int .i64 (((getB t2 id).map (·.state)).getD 0)), v64, v67])) rfl rfl ?_)
      refine s_op (o_extract (v := (.bool ((getB t2 id).isSome))) rfl rfl ?_)
      refine s_op (o_alloc (cs := #[(.int .i64 0), (.int .i64 0), (.int .i64 0), (.int .i64 0), (.int .i64 0), (.slice none 0 0), (.slice none 0 0)]) ti35 rfl hH71 fun b73 w74 hH75 => ?_)
      refine s_eff (o_storeN (vs := [(.int .i64 (((getB t2 id).map (·.id)).getD 0)), (.int .i64 (((getB t2 id).map (·.home)).getD 0)), (.int .i64 (((getB t2 id).map (·.first)).getD 0)), (.int .i64 (((getB t2 id).map (·.last)).getD 0)), (.int .i64 (((getB t2 id).map (·.state)).getD 0)), v64, v67]) (c' := #[(.int .i64 (((getB t2 id).map (·.id)).getD 0)), (.int .i64 (((getB t2 id).map (·.home)).getD 0)), (.int .i64 (((getB t2 id).map (·.first)).getD 0)), (.int .i64 (((getB t2 id).map (·.last)).getD 0)), (.int .i64 (((getB t2 id).map (·.state)).getD 0)), v64, v67]) ti35 rfl rfl rfl rfl (by intro u hu; simp only [List.mem_cons, List.not_mem_nil, or_false] at hu; rcases hu with rfl | rfl | rfl | rfl | rfl | rfl | rfl <;> first | rfl | exact ho66.one | exact ho69.one) (by simp) (by kernel_rfl) (hH75.front 0 rfl) fun w76 hH77 => ?_)
      refine s_op (o_assign (v := (.bool ((getB t2 id).isSome))) rfl ?_)
      refine s_nil ?_
      refine t_norm (hK63 _ _ ?_)
      refine wp_seq_k fun K78 hK78 => ?_
      refine wp_seq_k fun K79 hK79 => ?_
      refine c_region ?_
      refine s_op (o_move (v := (.int .i64 ((backT t2 id [no]).2))) rfl ?_)
      refine s_op (o_neq (a := (backT t2 id [no]).2) (b := 0) rfl rfl ?_)
      refine s_op (o_move (v := (.bool (decide ((backT t2 id [no]).2 ≠ 0)))) rfl ?_)
      by_cases h80 : (backT t2 id [no]).2 ≠ 0
      · -- (backT t2 id [no]).2 ≠ 0
        refine s_off (b' := true) 57 rfl (congrArg Value.bool (decide_eq_true h80)) rfl ?_
        refine s_off (b' := true) 57 rfl (congrArg Value.bool (decide_eq_true h80)) rfl ?_
        refine s_off (b' := true) 57 rfl (congrArg Value.bool (decide_eq_true h80)) rfl ?_
        refine s_op (o_pick_t (u := (.bool true)) ((rfl : _ = _).trans (congrArg Value.bool (decide_eq_true h80))) rfl ?_)
        refine s_nil ?_
        refine t_norm (hK79 _ _ ?_)
        refine c_true rfl rfl ?_
        refine wp_seq_k fun K81 hK81 => ?_
        refine c_region ?_
        refine s_op (o_assign (v := (.bool true)) rfl ?_)
        refine s_nil ?_
        refine t_norm (hK81 _ _ ?_)
        refine wp_ret ?_
        refine t_ret (c_ret1 Try.results4  (v := (.bool true)) rfl ?_)
        have hH82 : Has E w76 [R] := (hH77.front 6 rfl).first 1 rfl
        exact ⟨by first | rfl | (rw [hbe_]; rfl) | (simp; done), hH82⟩
      · -- not: (backT t2 id [no]).2 ≠ 0
        obtain ⟨kk, hkk, hks, hkf, hkb⟩ := backT_ok (Classical.not_not.1 h80)
        have hkok := hk2.get hkk
        have hkla := hkok.la
        have hkle := fromK_le hkok [no]
        have hkz := (hs2.get hkk).1
        have hkl : ((getB t2 id).map (·.last)).getD 0 = kk.last := by rw [hkk]; rfl
        have hkc : ((getB t2 id).map (·.changes)).getD [] = kk.changes := by rw [hkk]; rfl
        have hkcl : (((getB t2 id).map (·.changes)).getD []).length = kk.changes.length := by rw [hkc]
        have hkbl : (backT t2 id [no]).1.length = kk.changes.length - (fromK kk.places [no]).toNat := by rw [hkb]; simp
        refine s_on 57 rfl (congrArg Value.bool (decide_eq_false h80)) (o_fieldAddr (k := 3) (fun _ => by kernel_rfl) rfl ?_)
        refine s_on 57 rfl (congrArg Value.bool (decide_eq_false h80)) (o_load1 (v := (.int .i64 (((getB t2 id).map (·.last)).getD 0))) Try.underlying3 rfl rfl hH77 (seg_sub 0 rfl) (CellsAt.one rfl) ?_)
        refine s_on 57 rfl (congrArg Value.bool (decide_eq_false h80)) (o_gtr (a := (((getB t2 id).map (·.last)).getD 0)) (b := 2305843009213693952) rfl rfl ?_)
        refine s_op (o_pick_f (u := (.bool (decide (2305843009213693952 < (((getB t2 id).map (·.last)).getD 0))))) ((rfl : _ = _).trans (congrArg Value.bool (decide_eq_false h80))) rfl ?_)
        refine s_nil ?_
        refine t_norm (hK79 _ _ ?_)
        refine c_cond rfl (fun h83 => ?_) (fun h83 => ?_)
        · -- 2305843009213693952 < (((getB t2 id).map (·.last)).getD 0)
          refine wp_seq_k fun K84 hK84 => ?_
          refine c_region ?_
          refine s_op (o_assign (v := (.bool true)) rfl ?_)
          refine s_nil ?_
          refine t_norm (hK84 _ _ ?_)
          refine wp_ret ?_
          refine t_ret (c_ret1 Try.results4  (v := (.bool true)) rfl ?_)
          have hH85 : Has E w76 [R] := (hH77.front 6 rfl).first 1 rfl
          exact ⟨by first | rfl | (rw [hbe_]; rfl) | (simp; done), hH85⟩
        · -- not: 2305843009213693952 < (((getB t2 id).map (·.last)).getD 0)
          refine wp_skip ?_
          refine t_norm (hK78 _ _ ?_)
          refine wp_seq_k fun K86 hK86 => ?_
          refine c_region ?_
          refine s_op (o_fieldAddr (k := 5) (fun _ => by kernel_rfl) rfl ?_)
          refine s_op (o_load1 (v := v64) Try.underlying22 rfl rfl hH77 (seg_sub 0 rfl) (CellsAt.one rfl) ?_)
          refine s_op (o_lenS Try.underlying22 rfl ho66.sl ?_)
          refine s_op (o_move (v := v57) rfl ?_)
          refine s_op (o_lenS Try.underlying22 rfl ho59.sl ?_)
          refine s_op (o_sub (a := (((((getB t2 id).map (·.changes)).getD []).length : Nat) : Int)) (b := ((((backT t2 id [no]).1).length : Nat) : Int)) rfl rfl (w64 (by omega) (by omega)) ?_)
          refine s_op (o_assign (v := (.int .i64 ((((((getB t2 id).map (·.changes)).getD []).length : Nat) : Int) - ((((backT t2 id [no]).1).length : Nat) : Int)))) rfl ?_)
          refine s_nil ?_
          refine t_norm (hK86 _ _ ?_)
          refine wp_seq_k fun K87 hK87 => ?_
          refine wp_seq_k fun K88 hK88 => ?_
          refine c_region ?_
          refine s_op (o_assign (v := (.int .i64 0)) rfl ?_)
          refine s_nil ?_
          refine t_norm (hK88 _ _ ?_)
          refine wp_block ?_
          let I90 : Nat → (Nat → Value) → World → Prop := fun n__ r__ w__ => ∃ (i : Nat) (t3 : KTab) (sg3 : List Hp), n__ = ((backT t2 id [no]).1).length - i ∧ Has E w__ [sg3, [Hp.one b73 (.cells #[(.int .i64 (((getB t2 id).map (·.id)).getD 0)), (.int .i64 (((getB t2 id).map (·.home)).getD 0)), (.int .i64 (((getB t2 id).map (·.first)).getD 0)), (.int .i64 (((getB t2 id).map (·.last)).getD 0)), (.int .i64 (((getB t2 id).map (·.state)).getD 0)), v64, v67] 35 (0, 0))], s65, s68, s58, [Hp.one b54 (.cells #[(.int .i64 no)] 3 (0, 0))], R] ∧ (i ≤ ((backT t2 id [no]).1).length) ∧ (TtAt b18 sg3 (⟨t3⟩ : TxnS)) ∧ (szK t3 (l.length + i)) ∧ (TOk t3) ∧ (getB t3 id = some (backK kk i)) ∧ r__ 0 = v_l ∧ r__ 1 = (.int .i64 id) ∧ r__ 2 = (.int .i64 no) ∧ r__ 7 = (.pointer (some ⟨b18, 0, none⟩)) ∧ r__ 8 = (.int .i64 (k : Int)) ∧ r__ 9 = v57 ∧ r__ 10 = (.int .i64 ((backT t2 id [no]).2)) ∧ r__ 11 = (.pointer (some ⟨b73, 0, none⟩)) ∧ r__ 13 = (.int .i64 ((((((getB t2 id).map (·.changes)).getD []).length : Nat) : Int) - ((((backT t2 id [no]).1).length : Nat) : Int))) ∧ r__ 14 = (.int .i64 (i : Int)) ∧ r__ 25 = (.bool false) ∧ r__ 31 = (.bool (decide ((k : Int) < ((l.length : Nat) : Int)))) ∧ r__ 61 = (.bool (decide (2305843009213693952 < (((getB t2 id).map (·.last)).getD 0))))
          have hH91 : Has E w76 [sg2, [Hp.one b73 (.cells #[(.int .i64 (((getB t2 id).map (·.id)).getD 0)), (.int .i64 (((getB t2 id).map (·.home)).getD 0)), (.int .i64 (((getB t2 id).map (·.first)).getD 0)), (.int .i64 (((getB t2 id).map (·.last)).getD 0)), (.int .i64 (((getB t2 id).map (·.state)).getD 0)), v64, v67] 35 (0, 0))], s65, s68, s58, [Hp.one b54 (.cells #[(.int .i64 no)] 3 (0, 0))], R] := Has.pick hH77 [5, 0, 0, 0, 0, 0, 0] (by kernel_rfl)
          refine c_loop I90 _ ⟨0, t2, sg2, rfl, hH91, Nat.zero_le _, ht2, (hs2.mono (by omega)), hk2, (by rw [backK_0 hkok]; exact hkk), e28_0, e28_1, e28_2, e28_7, e28_8, rfl, rfl, rfl, rfl, rfl, e28_25, rfl, rfl⟩ ?_
          rintro n_ r94 w92 ⟨i, t3, sg3, rfl, hH93, hi, ht3, hs3, hk3, hgt3, e89_0, e89_1, e89_2, e89_7, e89_8, e89_9, e89_10, e89_11, e89_13, e89_14, e89_25, e89_31, e89_61⟩
          have hleb_ := (ho59).sl.le
          refine wp_seq_k fun K95 hK95 => ?_
          refine wp_seq_k fun K96 hK96 => ?_
          refine c_region ?_
          refine s_op (o_move (v := (.int .i64 (i : Int))) e89_14 ?_)
          refine s_op (o_move (v := v57) e89_9 ?_)
          refine s_op (o_lenS Try.underlying22 rfl ho59.sl ?_)
          refine s_op (o_lss (a := (i : Int)) (b := ((((backT t2 id [no]).1).length : Nat) : Int)) rfl rfl ?_)
          refine s_nil ?_
          refine t_norm (hK96 _ _ ?_)
          refine c_cond rfl (fun h97 => ?_) (fun h97 => ?_)
          · -- (i : Int) < ((((backT t2 id [no]).1).length : Nat) : Int)
            refine wp_skip ?_
            refine t_norm (hK95 _ _ ?_)
            refine wp_seq_k fun K98 hK98 => ?_
            refine wp_block ?_
            refine wp_seq_k fun K99 hK99 => ?_
            refine Rest.region mixed (by kernel_rfl) ?_
            have hH100 : Has E { w92 with drawn := w92.drawn + 1 } [sg3, [Hp.one b73 (.cells #[(.int .i64 (((getB t2 id).map (·.id)).getD 0)), (.int .i64 (((getB t2 id).map (·.home)).getD 0)), (.int .i64 (((getB t2 id).map (·.first)).getD 0)), (.int .i64 (((getB t2 id).map (·.last)).getD 0)), (.int .i64 (((getB t2 id).map (·.state)).getD 0)), v64, v67] 35 (0, 0))], s65, s68, s58, [Hp.one b54 (.cells #[(.int .i64 no)] 3 (0, 0))], R] := Has0.drew hH93 _
            refine Rest.phaseA (fun w_ => Has E w_ [[Hp.one b73 (.cells #[(.int .i64 (((getB t2 id).map (·.id)).getD 0)), (.int .i64 (((getB t2 id).map (·.home)).getD 0)), (.int .i64 (((getB t2 id).map (·.first)).getD 0)), (.int .i64 (((getB t2 id).map (·.last)).getD 0)), (.int .i64 (((getB t2 id).map (·.state)).getD 0)), v64, v67] 35 (0, 0))], s58]) 0 37 37 rfl (by decide) (by kernel_rfl) ?_
            refine a_op 0 rfl (by kernel_rfl) (fun w_ h_ => o_fieldAddr (k := 3) (fun _ => by kernel_rfl) e89_11 ⟨rfl, rfl⟩) ?_
            refine a_op 1 rfl (by kernel_rfl) (fun w_ h_ => o_load1 (v := (.int .i64 (((getB t2 id).map (·.last)).getD 0))) Try.underlying3 rfl rfl h_ (seg_sub 0 rfl) (CellsAt.one rfl) ⟨rfl, rfl⟩) ?_
            refine a_op 2 rfl (by kernel_rfl) (fun w_ h_ => o_add (a := (((getB t2 id).map (·.last)).getD 0)) (b := 1) rfl rfl (w64 (by omega) (by omega)) ⟨rfl, rfl⟩) ?_
            refine a_op 3 rfl (by kernel_rfl) (fun w_ h_ => o_move (v := (.int .i64 (i : Int))) e89_14 ⟨rfl, rfl⟩) ?_
            refine a_op 4 rfl (by kernel_rfl) (fun w_ h_ => o_add (a := (((getB t2 id).map (·.last)).getD 0) + 1) (b := (i : Int)) rfl rfl (w64 (by omega) (by omega)) ⟨rfl, rfl⟩) ?_
            refine a_op 5 rfl (by kernel_rfl) (fun w_ h_ => o_move (v := (.int .i64 id)) e89_1 ⟨rfl, rfl⟩) ?_
            refine a_op 6 rfl (by kernel_rfl) (fun w_ h_ => o_fieldAddr (k := 3) (fun _ => by kernel_rfl) e89_11 ⟨rfl, rfl⟩) ?_
            refine a_op 7 rfl (by kernel_rfl) (fun w_ h_ => o_load1 (v := (.int .i64 (((getB t2 id).map (·.last)).getD 0))) Try.underlying3 rfl rfl h_ (seg_sub 0 rfl) (CellsAt.one rfl) ⟨rfl, rfl⟩) ?_
            refine a_op 8 rfl (by kernel_rfl) (fun w_ h_ => o_move (v := (.int .i64 (i : Int))) e89_14 ⟨rfl, rfl⟩) ?_
            refine a_op 9 rfl (by kernel_rfl) (fun w_ h_ => o_add (a := (((getB t2 id).map (·.last)).getD 0)) (b := (i : Int)) rfl rfl (w64 (by omega) (by omega)) ⟨rfl, rfl⟩) ?_
            refine a_op 10 rfl (by kernel_rfl) (fun w_ h_ => o_move (v := v57) e89_9 ⟨rfl, rfl⟩) ?_
            refine a_op 11 rfl (by kernel_rfl) (fun w_ h_ => o_move (v := (.int .i64 (i : Int))) e89_14 ⟨rfl, rfl⟩) ?_
            obtain ⟨x104, hx105⟩ : ∃ x_, ((backT t2 id [no]).1)[((i : Int)).toNat]? = some x_ := get_some (by omega)
            obtain ⟨b101, o102, hc103, ho106⟩ := ix_exF recC_len Try.underlying22 ti32 ho59.sl (by omega) hx105
            refine a_op 12 rfl (by kernel_rfl) (fun w_ h_ => ho106 rfl rfl ⟨rfl, rfl⟩) ?_
            refine a_op 13 rfl (by kernel_rfl) (fun w_ h_ => o_fieldAddr (k := o102 + 4) (fun _ => by kernel_rfl) rfl ⟨rfl, rfl⟩) ?_
            refine a_op 14 rfl (by kernel_rfl) (fun w_ h_ => o_load1 (v := (.int .i64 x104.page)) Try.underlying3 rfl rfl h_ (seg_sub 1 rfl) (CellsAt.field (k := 4) (ds := [(.int .i64 x104.page)]) hc103 rfl) ⟨rfl, rfl⟩) ?_
            refine a_op 15 rfl (by kernel_rfl) (fun w_ h_ => o_move (v := v57) e89_9 ⟨rfl, rfl⟩) ?_
            refine a_op 16 rfl (by kernel_rfl) (fun w_ h_ => o_move (v := (.int .i64 (i : Int))) e89_14 ⟨rfl, rfl⟩) ?_
            obtain ⟨b107, o108, hc109, ho110⟩ := ix_exF recC_len Try.underlying22 ti32 ho59.sl (by omega) hx105
            refine a_op 17 rfl (by kernel_rfl) (fun w_ h_ => ho110 rfl rfl ⟨rfl, rfl⟩) ?_
            refine a_op 18 rfl (by kernel_rfl) (fun w_ h_ => o_fieldAddr (k := o108 + 5) (fun _ => by kernel_rfl) rfl ⟨rfl, rfl⟩) ?_
            refine a_op 19 rfl (by kernel_rfl) (fun w_ h_ => o_load1 (v := (S x104.key)) Try.underlying9 rfl rfl h_ (seg_sub 1 rfl) (CellsAt.field (k := 5) (ds := [(S x104.key)]) hc109 rfl) ⟨rfl, rfl⟩) ?_
            refine a_op 20 rfl (by kernel_rfl) (fun w_ h_ => o_move (v := v57) e89_9 ⟨rfl, rfl⟩) ?_
            refine a_op 21 rfl (by kernel_rfl) (fun w_ h_ => o_move (v := (.int .i64 (i : Int))) e89_14 ⟨rfl, rfl⟩) ?_
            obtain ⟨b111, o112, hc113, ho114⟩ := ix_exF recC_len Try.underlying22 ti32 ho59.sl (by omega) hx105
            refine a_op 22 rfl (by kernel_rfl) (fun w_ h_ => ho114 rfl rfl ⟨rfl, rfl⟩) ?_
            refine a_op 23 rfl (by kernel_rfl) (fun w_ h_ => o_fieldAddr (k := o112 + 8) (fun _ => by kernel_rfl) rfl ⟨rfl, rfl⟩) ?_
            refine a_op 24 rfl (by kernel_rfl) (fun w_ h_ => o_loadN (cs := [(.bool x104.ah), (S x104.av)]) Try.underlying30 rfl ti30 rfl h_ (seg_sub 1 rfl) (CellsAt.field (k := 8) (ds := [(.bool x104.ah), (S x104.av)]) hc113 rfl) ⟨rfl, rfl⟩) ?_
            refine a_op 25 rfl (by kernel_rfl) (fun w_ h_ => o_move (v := v57) e89_9 ⟨rfl, rfl⟩) ?_
            refine a_op 26 rfl (by kernel_rfl) (fun w_ h_ => o_move (v := (.int .i64 (i : Int))) e89_14 ⟨rfl, rfl⟩) ?_
            obtain ⟨b115, o116, hc117, ho118⟩ := ix_exF recC_len Try.underlying22 ti32 ho59.sl (by omega) hx105
            refine a_op 27 rfl (by kernel_rfl) (fun w_ h_ => ho118 rfl rfl ⟨rfl, rfl⟩) ?_
            refine a_op 28 rfl (by kernel_rfl) (fun w_ h_ => o_fieldAddr (k := o116 + 6) (fun _ => by kernel_rfl) rfl ⟨rfl, rfl⟩) ?_
            refine a_op 29 rfl (by kernel_rfl) (fun w_ h_ => o_loadN (cs := [(.bool x104.bh), (S x104.bv)]) Try.underlying30 rfl ti30 rfl h_ (seg_sub 1 rfl) (CellsAt.field (k := 6) (ds := [(.bool x104.bh), (S x104.bv)]) hc117 rfl) ⟨rfl, rfl⟩) ?_
            refine a_op 30 rfl (by kernel_rfl) (fun w_ h_ => o_move (v := v57) e89_9 ⟨rfl, rfl⟩) ?_
            refine a_op 31 rfl (by kernel_rfl) (fun w_ h_ => o_move (v := (.int .i64 (i : Int))) e89_14 ⟨rfl, rfl⟩) ?_
            obtain ⟨b119, o120, hc121, ho122⟩ := ix_exF recC_len Try.underlying22 ti32 ho59.sl (by omega) hx105
            refine a_op 32 rfl (by kernel_rfl) (fun w_ h_ => ho122 rfl rfl ⟨rfl, rfl⟩) ?_
            refine a_op 33 rfl (by kernel_rfl) (fun w_ h_ => o_fieldAddr (k := o120 + 1) (fun _ => by kernel_rfl) rfl ⟨rfl, rfl⟩) ?_
            refine a_op 34 rfl (by kernel_rfl) (fun w_ h_ => o_load1 (v := (.int .i64 x104.gsn)) Try.underlying3 rfl rfl h_ (seg_sub 1 rfl) (CellsAt.field (k := 1) (ds := [(.int .i64 x104.gsn)]) hc121 rfl) ⟨rfl, rfl⟩) ?_
            refine a_op 35 rfl (by kernel_rfl) (fun w_ h_ => o_sight (v := (.agg #[(.int .i64 3), (.int .i64 (((((getB t2 id).map (·.last)).getD 0) + 1) + (i : Int))), (.int .i64 id), (.int .i64 ((((getB t2 id).map (·.last)).getD 0) + (i : Int))), (.int .i64 x104.page), (S x104.key), (.bool x104.ah), (S x104.av), (.bool x104.bh), (S x104.bv), (.int .i64 x104.gsn)])) (fun _ => by kernel_rfl) ⟨rfl, rfl⟩) ?_
            have hH123 : Has E { w92 with drawn := w92.drawn + 1 } [[Hp.one b73 (.cells #[(.int .i64 (((getB t2 id).map (·.id)).getD 0)), (.int .i64 (((getB t2 id).map (·.home)).getD 0)), (.int .i64 (((getB t2 id).map (·.first)).getD 0)), (.int .i64 (((getB t2 id).map (·.last)).getD 0)), (.int .i64 (((getB t2 id).map (·.state)).getD 0)), v64, v67] 35 (0, 0))], s58] := ((hH100.front 4 rfl).front 2 rfl).first 2 rfl
            refine a_w 36 rfl (by kernel_rfl) hH123 (o_alloc (cs := #[(.int .i64 0), (.int .i64 0), (.int .i64 0), (.int .i64 0), (.int .i64 0), (S ([] : List UInt8)), (.bool false), (S ([] : List UInt8)), (.bool false), (S ([] : List UInt8)), (.int .i64 0)]) ti32 rfl hH100 fun b124 w125 hH126 => ?_)
            have hH127 : Has E w125 [[Hp.one b73 (.cells #[(.int .i64 (((getB t2 id).map (·.id)).getD 0)), (.int .i64 (((getB t2 id).map (·.home)).getD 0)), (.int .i64 (((getB t2 id).map (·.first)).getD 0)), (.int .i64 (((getB t2 id).map (·.last)).getD 0)), (.int .i64 (((getB t2 id).map (·.state)).getD 0)), v64, v67] 35 (0, 0))], s58] := ((hH126.front 5 rfl).front 3 rfl).first 2 rfl
            refine a_done (by kernel_rfl) hH127 ?_
            refine r_eff 37 rfl (by kernel_rfl) (o_storeN (vs := [(.int .i64 3), (.int .i64 (((((getB t2 id).map (·.last)).getD 0) + 1) + (i : Int))), (.int .i64 id), (.int .i64 ((((getB t2 id).map (·.last)).getD 0) + (i : Int))), (.int .i64 x104.page), (S x104.key), (.bool x104.ah), (S x104.av), (.bool x104.bh), (S x104.bv), (.int .i64 x104.gsn)]) (c' := #[(.int .i64 3), (.int .i64 (((((getB t2 id).map (·.last)).getD 0) + 1) + (i : Int))), (.int .i64 id), (.int .i64 ((((getB t2 id).map (·.last)).getD 0) + (i : Int))), (.int .i64 x104.page), (S x104.key), (.bool x104.ah), (S x104.av), (.bool x104.bh), (S x104.bv), (.int .i64 x104.gsn)]) ti32 rfl rfl rfl rfl (by intro u hu; simp only [List.mem_cons, List.not_mem_nil, or_false] at hu; rcases hu with rfl | rfl | rfl | rfl | rfl | rfl | rfl | rfl | rfl | rfl | rfl <;> first | rfl) (by simp) (by kernel_rfl) (hH126.front 0 rfl) fun w128 hH129 => ?_)
            refine Rest.done (by kernel_rfl) ?_
            refine t_norm (hK99 _ _ ?_)
            refine wp_seq_k fun K130 hK130 => ?_
            refine c_region ?_
            refine s_op (o_move (v := (.pointer (some ⟨b18, 0, none⟩))) e89_7 ?_)
            refine s_op (o_loadN (cs := [(.int .i64 3), (.int .i64 (((((getB t2 id).map (·.last)).getD 0) + 1) + (i : Int))), (.int .i64 id), (.int .i64 ((((getB t2 id).map (·.last)).getD 0) + (i : Int))), (.int .i64 x104.page), (S x104.key), (.bool x104.ah), (S x104.av), (.bool x104.bh), (S x104.bv), (.int .i64 x104.gsn)]) Try.underlying32 rfl ti32 rfl hH129 (seg_sub 0 rfl) (CellsAt.one rfl) ?_)
            refine s_op (o_buildSlice (ps := #[(0, (.agg #[(.int .i64 3), (.int .i64 (((((getB t2 id).map (·.last)).getD 0) + 1) + (i : Int))), (.int .i64 id), (.int .i64 ((((getB t2 id).map (·.last)).getD 0) + (i : Int))), (.int .i64 x104.page), (S x104.key), (.bool x104.ah), (S x104.av), (.bool x104.bh), (S x104.bv), (.int .i64 x104.gsn)]))]) (cells := #[(.int .i64 3), (.int .i64 (((((getB t2 id).map (·.last)).getD 0) + 1) + (i : Int))), (.int .i64 id), (.int .i64 ((((getB t2 id).map (·.last)).getD 0) + (i : Int))), (.int .i64 x104.page), (S x104.key), (.bool x104.ah), (S x104.av), (.bool x104.bh), (S x104.bv), (.int .i64 x104.gsn)]) Try.underlying22 ti32 (by decide) (parts1 rfl) (by kernel_rfl) hH129 fun b131 w132 hH133 => ?_)
            refine s_op (o_callf (vs := #[(.pointer (some ⟨b18, 0, none⟩)), (.int .i64 0), (.slice (some ⟨b131, 0, none⟩) 1 1)]) ca18 rfl (args3 rfl rfl rfl) (tnote_c (v := (⟨t3⟩ : TxnS)) (home := 0) (l := [(Rec.mk 3 (((((getB t2 id).map (·.last)).getD 0) + 1) + (i : Int)) id ((((getB t2 id).map (·.last)).getD 0) + (i : Int)) x104.page x104.key x104.ah x104.av x104.bh x104.bv x104.gsn)]) (hH133.front 2 rfl).all1 ht3 ((sl_litF (f := recC) (l := [(Rec.mk 3 (((((getB t2 id).map (·.last)).getD 0) + 1) + (i : Int)) id ((((getB t2 id).map (·.last)).getD 0) + (i : Int)) x104.page x104.key x104.ah x104.av x104.bh x104.bv x104.gsn)]) recC_len rfl rfl (by simp)).mono (seg_sub 0 rfl)) hs3 (by first | omega | (simp only [List.length_cons, List.length_nil]; omega) | (simp; omega))) ?_)
            rintro _ w138 ⟨sg134, rfl, hd135, hX136⟩
            refine ⟨_, rfl, ?_⟩
            have hH137 : Has E w138 [sg134, [Hp.one b131 (.cells #[(.int .i64 3), (.int .i64 (((((getB t2 id).map (·.last)).getD 0) + 1) + (i : Int))), (.int .i64 id), (.int .i64 ((((getB t2 id).map (·.last)).getD 0) + (i : Int))), (.int .i64 x104.page), (S x104.key), (.bool x104.ah), (S x104.av), (.bool x104.bh), (S x104.bv), (.int .i64 x104.gsn)] 32 (0, 0))], [Hp.one b124 (.cells #[(.int .i64 3), (.int .i64 (((((getB t2 id).map (·.last)).getD 0) + 1) + (i : Int))), (.int .i64 id), (.int .i64 ((((getB t2 id).map (·.last)).getD 0) + (i : Int))), (.int .i64 x104.page), (S x104.key), (.bool x104.ah), (S x104.av), (.bool x104.bh), (S x104.bv), (.int .i64 x104.gsn)] 32 (0, 0))], [Hp.one b73 (.cells #[(.int .i64 (((getB t2 id).map (·.id)).getD 0)), (.int .i64 (((getB t2 id).map (·.home)).getD 0)), (.int .i64 (((getB t2 id).map (·.first)).getD 0)), (.int .i64 (((getB t2 id).map (·.last)).getD 0)), (.int .i64 (((getB t2 id).map (·.state)).getD 0)), v64, v67] 35 (0, 0))], s65, s68, s58, [Hp.one b54 (.cells #[(.int .i64 no)] 3 (0, 0))], R] := hX136.of_all1
            have hd135 : TtAt b18 sg134 (⟨(noteL 0 t3 [(Rec.mk 3 (((((getB t2 id).map (·.last)).getD 0) + 1) + (i : Int)) id ((((getB t2 id).map (·.last)).getD 0) + (i : Int)) x104.page x104.key x104.ah x104.av x104.bh x104.bv x104.gsn)]).1⟩ : TxnS) := hd135
            have hs139 := hs3.noteL (home := 0) (l := [(Rec.mk 3 (((((getB t2 id).map (·.last)).getD 0) + 1) + (i : Int)) id ((((getB t2 id).map (·.last)).getD 0) + (i : Int)) x104.page x104.key x104.ah x104.av x104.bh x104.bv x104.gsn)])
            have hk140 := hk3.noteL (home := 0) (l := [(Rec.mk 3 (((((getB t2 id).map (·.last)).getD 0) + 1) + (i : Int)) id ((((getB t2 id).map (·.last)).getD 0) + (i : Int)) x104.page x104.key x104.ah x104.av x104.bh x104.bv x104.gsn)])
            have hx2_ : ((kk.changes.drop (fromK kk.places [no]).toNat).reverse)[i]? = some x104 := by rw [← hkb]; exact hx105
            have hcm_ := hkok.ch _ (List.mem_of_getElem? (rev_drop hx2_).2)
            have hq_ : noteL 0 t3 [(Rec.mk 3 (((((getB t2 id).map (·.last)).getD 0) + 1) + (i : Int)) id ((((getB t2 id).map (·.last)).getD 0) + (i : Int)) x104.page x104.key x104.ah x104.av x104.bh x104.bv x104.gsn)] = (putB t3 id (backK kk (i + 1)), 0) := back_one hkok hks hx2_ (by omega) hgt3 0 (by unfold clrR; simp only [Q.Rec.mk.injEq, true_and, and_true]; rw [hkl]; refine ⟨?_, ?_, ?_⟩ <;> first | omega | exact hcm_.2.2.1.symm)
            refine s_op (o_neq (a := (noteL 0 t3 [(Rec.mk 3 (((((getB t2 id).map (·.last)).getD 0) + 1) + (i : Int)) id ((((getB t2 id).map (·.last)).getD 0) + (i : Int)) x104.page x104.key x104.ah x104.av x104.bh x104.bv x104.gsn)]).2) (b := 0) rfl rfl ?_)
            refine s_nil ?_
            refine t_norm (hK130 _ _ ?_)
            refine c_cond rfl (fun h141 => ?_) (fun h141 => ?_)
            · -- (noteL 0 t3 [(Rec.mk 3 (((((getB t2 id).map (·.last)).getD 0) + 1) + (i : Int)) id ((((getB t2 id).map (·.last)).getD 0) + (i : Int)) x104.page x104.key x104.ah x104.av x104.bh x104.bv x104.gsn)]).2 ≠ 0
              exact absurd (by rw [hq_]) h141
            · -- not: (noteL 0 t3 [(Rec.mk 3 (((((getB t2 id).map (·.last)).getD 0) + 1) + (i : Int)) id ((((getB t2 id).map (·.last)).getD 0) + (i : Int)) x104.page x104.key x104.ah x104.av x104.bh x104.bv x104.gsn)]).2 ≠ 0
              refine wp_skip ?_
              refine b_norm ?_
              refine t_norm (hK98 _ _ ?_)
              refine c_region ?_
              refine s_op (o_move (v := (.int .i64 (i : Int))) e89_14 ?_)
              refine s_op (o_add (a := (i : Int)) (b := 1) rfl rfl (w64 (by omega) (by omega)) ?_)
              refine s_op (o_assign (v := (.int .i64 ((i : Int) + 1))) rfl ?_)
              refine s_nil ?_
              have hH142 : Has E w138 [sg134, [Hp.one b73 (.cells #[(.int .i64 (((getB t2 id).map (·.id)).getD 0)), (.int .i64 (((getB t2 id).map (·.home)).getD 0)), (.int .i64 (((getB t2 id).map (·.first)).getD 0)), (.int .i64 (((getB t2 id).map (·.last)).getD 0)), (.int .i64 (((getB t2 id).map (·.state)).getD 0)), v64, v67] 35 (0, 0))], s65, s68, s58, [Hp.one b54 (.cells #[(.int .i64 no)] 3 (0, 0))], R] := Has.pick hH137 [0, 2, 2, 2, 2, 2, 2] (by kernel_rfl)
              refine t_norm ⟨((backT t2 id [no]).1).length - (i + 1), _, rfl, ?_, ?_⟩
              · omega
              · exact ⟨(i + 1), ((noteL 0 t3 [(Rec.mk 3 (((((getB t2 id).map (·.last)).getD 0) + 1) + (i : Int)) id ((((getB t2 id).map (·.last)).getD 0) + (i : Int)) x104.page x104.key x104.ah x104.av x104.bh x104.bv x104.gsn)]).1), sg134, rfl, hH142, (by omega), (hd135), (hs139), (hk140), (by rw [hq_]; rw [getB_put, if_pos rfl]), e89_0, e89_1, e89_2, e89_7, e89_8, e89_9, e89_10, e89_11, e89_13, rfl, e89_25, e89_31, e89_61⟩
          · -- not: (i : Int) < ((((backT t2 id [no]).1).length : Nat) : Int)
            have hi_ : i = kk.changes.length - (fromK kk.places [no]).toNat := by omega
            have hgt4 := hgt3
            rw [hi_] at hgt4
            have hbe_ := back_end hkok hks hkf hgt4
            have hcl4 : (((getB t3 id).map (·.changes)).getD []).length = kk.changes.length - i := by rw [hgt3]; simp [backK]
            refine wp_exit ?_
            refine t_exit (t_exit (x_in (?_)))
            refine t_norm (hK87 _ _ ?_)
            refine wp_seq_k fun K143 hK143 => ?_
            refine c_region ?_
            refine s_op (o_move (v := (.pointer (some ⟨b18, 0, none⟩))) e89_7 ?_)
            refine s_op (o_move (v := (.int .i64 id)) e89_1 ?_)
            refine s_op (o_move (v := (.int .i64 no)) e89_2 ?_)
            refine s_op (o_buildSlice (ps := #[(0, (.int .i64 no))]) (cells := #[(.int .i64 no)]) Try.underlying54 ti3 (by decide) (parts1 rfl) (by kernel_rfl) hH93 fun b144 w145 hH146 => ?_)
            refine s_op (o_callf (vs := #[(.pointer (some ⟨b18, 0, none⟩)), (.int .i64 id), (.slice (some ⟨b144, 0, none⟩) 1 1)]) ca20 rfl (args3 rfl rfl rfl) (tback_c (v := (⟨t3⟩ : TxnS)) (id := id) (no := [no]) hH146.all (ht3.rd.mono (seg_sub 1 rfl)) ((sl_lit (f := iV) (l := [no]) rfl rfl (by simp)).mono (seg_sub 0 rfl)) (hs3.mono (by first | omega | (simp only [List.length_cons, List.length_nil]; omega) | (simp; omega))) hk3 (by first | decide | omega | simp)) ?_)
            rintro _ w152 ⟨v147, s148, rfl, ho149, hX150⟩
            refine ⟨_, rfl, ?_⟩
            have hH151 : Has E w152 [s148, [Hp.one b144 (.cells #[(.int .i64 no)] 3 (0, 0))], sg3, [Hp.one b73 (.cells #[(.int .i64 (((getB t2 id).map (·.id)).getD 0)), (.int .i64 (((getB t2 id).map (·.home)).getD 0)), (.int .i64 (((getB t2 id).map (·.first)).getD 0)), (.int .i64 (((getB t2 id).map (·.last)).getD 0)), (.int .i64 (((getB t2 id).map (·.state)).getD 0)), v64, v67] 35 (0, 0))], s65, s68, s58, [Hp.one b54 (.cells #[(.int .i64 no)] 3 (0, 0))], R] := hX150.of_all1
            have ho149 : Own 32 11 v147 ((backT t3 id [no]).1).length (((backT t3 id [no]).1).flatMap recC) s148 := ho149
            refine s_op (o_move (v := (.tuple #[v147, (.int .i64 ((backT t3 id [no]).2))])) rfl ?_)
            refine s_op (o_extract (v := v147) rfl rfl ?_)
            refine s_op (o_extract (v := (.int .i64 ((backT t3 id [no]).2))) rfl rfl ?_)
            refine s_op (o_assign (v := v147) rfl ?_)
            refine s_op (o_assign (v := (.int .i64 ((backT t3 id [no]).2))) rfl ?_)
            refine s_nil ?_
            refine t_norm (hK143 _ _ ?_)
            refine wp_seq_k fun K153 hK153 => ?_
            refine c_region ?_
            refine s_op (o_move (v := (.pointer (some ⟨b18, 0, none⟩))) e89_7 ?_)
            refine s_op (o_move (v := (.int .i64 id)) e89_1 ?_)
            refine s_op (o_callf (vs := #[(.pointer (some ⟨b18, 0, none⟩)), (.int .i64 id)]) ca19 rfl (args2 rfl rfl) (tget_c (v := (⟨t3⟩ : TxnS)) (id := id) hH151.all (ht3.rd.mono (seg_sub 2 rfl)) (hs3.mono (by first | omega | (simp only [List.length_cons, List.length_nil]; omega) | (simp; omega)))) ?_)
            rintro _ w162 ⟨v154, s155, v157, s158, rfl, ho156, ho159, hX160⟩
            refine ⟨_, rfl, ?_⟩
            have hH161 : Has E w162 [s155, s158, s148, [Hp.one b144 (.cells #[(.int .i64 no)] 3 (0, 0))], sg3, [Hp.one b73 (.cells #[(.int .i64 (((getB t2 id).map (·.id)).getD 0)), (.int .i64 (((getB t2 id).map (·.home)).getD 0)), (.int .i64 (((getB t2 id).map (·.first)).getD 0)), (.int .i64 (((getB t2 id).map (·.last)).getD 0)), (.int .i64 (((getB t2 id).map (·.state)).getD 0)), v64, v67] 35 (0, 0))], s65, s68, s58, [Hp.one b54 (.cells #[(.int .i64 no)] 3 (0, 0))], R] := hX160.of_all2
            have ho156 : Own 32 11 v154 (((getB t3 id).map (·.changes)).getD []).length ((((getB t3 id).map (·.changes)).getD []).flatMap recC) s155 := ho156
            have ho159 : Own 39 2 v157 (((getB t3 id).map (·.places)).getD []).length ((((getB t3 id).map (·.places)).getD []).flatMap tmC) s158 := ho159
            refine s_op (o_move (v := (.tuple #[(.agg #[(.int .i64 (((getB t3 id).map (·.id)).getD 0)), (.int .i64 (((getB t3 id).map (·.home)).getD 0)), (.int .i64 (((getB t3 id).map (·.first)).getD 0)), (.int .i64 (((getB t3 id).map (·.last)).getD 0)), (.int .i64 (((getB t3 id).map (·.state)).getD 0)), v154, v157]), (.bool ((getB t3 id).isSome))])) rfl ?_)
            refine s_op (o_extract (v := (.agg #[(.int .i64 (((getB t3 id).map (·.id)).getD 0)), (.int .i64 (((getB t3 id).map (·.home)).getD 0)), (.int .i64 (((getB t3 id).map (·.first)).getD 0)), (.int .i64 (((getB t3 id).map (·.last)).getD 0)), (.int .i64 (((getB t3 id).map (·.state)).getD 0)), v154, v157])) rfl rfl ?_)
            refine s_op (o_extract (v := (.bool ((getB t3 id).isSome))) rfl rfl ?_)
            refine s_op (o_alloc (cs := #[(.int .i64 0), (.int .i64 0), (.int .i64 0), (.int .i64 0), (.int .i64 0), (.slice none 0 0), (.slice none 0 0)]) ti35 rfl hH161 fun b163 w164 hH165 => ?_)
            refine s_eff (o_storeN (vs := [(.int .i64 (((getB t3 id).map (·.id)).getD 0)), (.int .i64 (((getB t3 id).map (·.home)).getD 0)), (.int .i64 (((getB t3 id).map (·.first)).getD 0)), (.int .i64 (((getB t3 id).map (·.last)).getD 0)), (.int .i64 (((getB t3 id).map (·.state)).getD 0)), v154, v157]) (c' := #[(.int .i64 (((getB t3 id).map (·.id)).getD 0)), (.int .i64 (((getB t3 id).map (·.home)).getD 0)), (.int .i64 (((getB t3 id).map (·.first)).getD 0)), (.int .i64 (((getB t3 id).map (·.last)).getD 0)), (.int .i64 (((getB t3 id).map (·.state)).getD 0)), v154, v157]) ti35 rfl rfl rfl rfl (by intro u hu; simp only [List.mem_cons, List.not_mem_nil, or_false] at hu; rcases hu with rfl | rfl | rfl | rfl | rfl | rfl | rfl <;> first | rfl | exact ho156.one | exact ho159.one) (by simp) (by kernel_rfl) (hH165.front 0 rfl) fun w166 hH167 => ?_)
            refine s_op (o_assign (v := (.bool ((getB t3 id).isSome))) rfl ?_)
            refine s_nil ?_
            refine t_norm (hK153 _ _ ?_)
            refine wp_seq_k fun K168 hK168 => ?_
            refine c_region ?_
            refine s_op (o_move (v := (.bool ((getB t3 id).isSome))) rfl ?_)
            refine s_op (o_move (v := (.bool ((getB t3 id).isSome))) rfl ?_)
            rcases Bool.eq_false_or_eq_true ((getB t3 id).isSome) with h169 | h169
            · -- (getB t3 id).isSome
              refine s_on 130 rfl (congrArg Value.bool h169) (o_fieldAddr (k := 5) (fun _ => by kernel_rfl) rfl ?_)
              refine s_on 130 rfl (congrArg Value.bool h169) (o_load1 (v := v154) Try.underlying22 rfl rfl hH167 (seg_sub 0 rfl) (CellsAt.one rfl) ?_)
              refine s_on 130 rfl (congrArg Value.bool h169) (o_lenS Try.underlying22 rfl ho156.sl ?_)
              refine s_on 130 rfl (congrArg Value.bool h169) (o_move (v := (.int .i64 ((((((getB t2 id).map (·.changes)).getD []).length : Nat) : Int) - ((((backT t2 id [no]).1).length : Nat) : Int)))) e89_13 ?_)
              refine s_on 130 rfl (congrArg Value.bool h169) (o_eql (a := (((((getB t3 id).map (·.changes)).getD []).length : Nat) : Int)) (b := (((((getB t2 id).map (·.changes)).getD []).length : Nat) : Int) - ((((backT t2 id [no]).1).length : Nat) : Int)) rfl rfl ?_)
              refine s_op (o_pick_t (u := (.bool (decide ((((((getB t3 id).map (·.changes)).getD []).length : Nat) : Int) = (((((getB t2 id).map (·.changes)).getD []).length : Nat) : Int) - ((((backT t2 id [no]).1).length : Nat) : Int))))) ((rfl : _ = _).trans (congrArg Value.bool h169)) rfl ?_)
              refine s_op (o_move (v := (.bool (decide ((((((getB t3 id).map (·.changes)).getD []).length : Nat) : Int) = (((((getB t2 id).map (·.changes)).getD []).length : Nat) : Int) - ((((backT t2 id [no]).1).length : Nat) : Int))))) rfl ?_)
              by_cases h170 : (((((getB t3 id).map (·.changes)).getD []).length : Nat) : Int) = (((((getB t2 id).map (·.changes)).getD []).length : Nat) : Int) - ((((backT t2 id [no]).1).length : Nat) : Int)
              · -- (((((getB t3 id).map (·.changes)).getD []).length : Nat) : Int) = (((((getB t2 id).map (·.changes)).getD []).length : Nat) : Int) - ((((backT t2 id [no]).1).length : Nat) : Int)
                refine s_on 137 rfl (congrArg Value.bool (decide_eq_true h170)) (o_move (v := v147) rfl ?_)
                refine s_on 137 rfl (congrArg Value.bool (decide_eq_true h170)) (o_lenS Try.underlying22 rfl ho149.sl ?_)
                refine s_on 137 rfl (congrArg Value.bool (decide_eq_true h170)) (o_eql (a := ((((backT t3 id [no]).1).length : Nat) : Int)) (b := 0) rfl rfl ?_)
                refine s_op (o_pick_t (u := (.bool (decide (((((backT t3 id [no]).1).length : Nat) : Int) = 0)))) ((rfl : _ = _).trans (congrArg Value.bool (decide_eq_true h170))) rfl ?_)
                refine s_op (o_move (v := (.bool (decide (((((backT t3 id [no]).1).length : Nat) : Int) = 0)))) rfl ?_)
                by_cases h171 : ((((backT t3 id [no]).1).length : Nat) : Int) = 0
                · -- ((((backT t3 id [no]).1).length : Nat) : Int) = 0
                  refine s_on 142 rfl (congrArg Value.bool (decide_eq_true h171)) (o_move (v := (.int .i64 ((backT t3 id [no]).2))) rfl ?_)
                  refine s_on 142 rfl (congrArg Value.bool (decide_eq_true h171)) (o_eql (a := (backT t3 id [no]).2) (b := 0) rfl rfl ?_)
                  refine s_op (o_pick_t (u := (.bool (decide ((backT t3 id [no]).2 = 0)))) ((rfl : _ = _).trans (congrArg Value.bool (decide_eq_true h171))) rfl ?_)
                  refine s_op (o_assign (v := (.bool (decide ((backT t3 id [no]).2 = 0)))) rfl ?_)
                  refine s_nil ?_
                  refine t_norm (hK168 _ _ ?_)
                  refine wp_ret ?_
                  refine c_ret1 Try.results4  (v := (.bool (decide ((backT t3 id [no]).2 = 0)))) rfl ?_
                  have hH172 : Has E w166 [R] := (hH167.front 11 rfl).first 1 rfl
                  exact ⟨by first | rfl | (rw [hbe_]; rfl) | (simp; done), hH172⟩
                · -- not: ((((backT t3 id [no]).1).length : Nat) : Int) = 0
                  exact absurd (by first | (rw [hgt3]; done) | (rw [hgt3]; rfl) | (rw [hbe_]; rfl) | omega) h171
              · -- not: (((((getB t3 id).map (·.changes)).getD []).length : Nat) : Int) = (((((getB t2 id).map (·.changes)).getD []).length : Nat) : Int) - ((((backT t2 id [no]).1).length : Nat) : Int)
                exact absurd (by first | (rw [hgt3]; done) | (rw [hgt3]; rfl) | (rw [hbe_]; rfl) | omega) h170
            · -- not: (getB t3 id).isSome
              exact absurd h169 (by rw [hgt3]; simp)
end Go.Q
namespace Go.Q
section
variable {H : Type} {enc : TypeId × Value → H} {P : Program} {w : World} {t e : TypeId} {cs : List Value}
/-- These cells read as a value of the type. -/
def Rd (enc : TypeId × Value → H) (P : Program) (w : World) (t : TypeId) (cs : List Value) : Prop := ∃ fuel x, DataW.trod enc P w 0 (fun _ => true) true fuel t cs = some x
theorem rd_of {v : Value} {d : DataW H} {ps : List MemPlace} (h : DataW.Trod enc P w 0 (fun _ => true) true t v d ps) : Rd enc P w t v.cells.toList := ⟨h.choose, _, h.choose_spec⟩
theorem rd_int {k : IntKind} (ht : P.underlying t = some (.int k)) (h : Rd enc P w t cs) : ∃ n, cs = [.int k n] ∧ (Lit.int k n).wf = true := by
  obtain ⟨f, x, h⟩ := h
  obtain ⟨n, h1, _, h2⟩ := DataW.trod_int ht h
  exact ⟨n, h1, h2⟩
theorem rd_i64 (ht : P.underlying t = some (.int .i64)) (h : Rd enc P w t cs) : ∃ n, cs = [iV n] ∧ (-9223372036854775808 : Int) ≤ n ∧ n ≤ 9223372036854775807 := by
  obtain ⟨n, h1, h2⟩ := rd_int ht h
  exact ⟨n, h1, wf_i64 h2⟩
theorem rd_string (ht : P.underlying t = some .string) (h : Rd enc P w t cs) : ∃ l : List UInt8, cs = [S l] ∧ l.length ≤ 9223372036854775807 := by
  obtain ⟨f, x, h⟩ := h
  obtain ⟨s, h1, _, h2⟩ := DataW.trod_string ht h
  exact ⟨s.data.toList, by rw [h1, S_of], by rw [show maxLen = 9223372036854775807 from rfl] at h2; exact h2⟩
theorem rd_bool (ht : P.underlying t = some .bool) (h : Rd enc P w t cs) : ∃ b, cs = [.bool b] := by
  obtain ⟨f, x, h⟩ := h
  cases f with
  | zero => simp [DataW.trod] at h
  | succ m =>
    unfold DataW.trod at h
    rw [ht] at h
    split at h <;> simp_all
theorem rd_struct {fs : Array Field} (ht : P.underlying t = some (.struct fs)) (h : Rd enc P w t cs) :
    cs.length = P.cellsOf t ∧ ∀ (i : Nat) (f : Field), fs[i]? = some f → Rd enc P w f.type ((cs.drop f.offset).take (P.cellsOf f.type)) := by
  obtain ⟨f, x, h⟩ := h
  obtain ⟨xs, n, _, _, h1, h2, h3⟩ := DataW.trod_struct ht h
  refine ⟨h1, fun i f hf => ?_⟩
  have hi : i < xs.length := by rw [h2]; exact (Array.getElem?_eq_some_iff.1 hf).1
  exact ⟨n, xs[i], by rw [h3 i f hf, List.getElem?_eq_getElem hi]⟩
theorem rd_field {fs : Array Field} {i k : Nat} {f : Field} {T : TypeId} {ds : List Value} (hf : ∀ (i : Nat) (f : Field), fs[i]? = some f → Rd enc P w f.type ((cs.drop f.offset).take (P.cellsOf f.type)))
    (h : fs[i]? = some f) (hT : f.type = T) (hc : P.cellsOf T = k) (hd : (cs.drop f.offset).take k = ds) : Rd enc P w T ds := by
  have g := hf i f h
  rw [hT, hc, hd] at g
  exact g
theorem rd_slice (ht : P.underlying t = some (.slice e)) (h : Rd enc P w t cs) :
    cs = [.slice none 0 0] ∨ ∃ a len cap, cs = [.slice (some a) len cap] ∧ len ≤ cap ∧ cap ≤ 9223372036854775807 ∧
      ∀ i, i < len → ∃ r : List Value, r.length = P.cellsOf e ∧ Rd enc P w e r ∧ ∀ j, j < P.cellsOf e → w.cell? (a.add (i * P.cellsOf e + j)) = r[j]? := by
  obtain ⟨f, x, h⟩ := h
  rcases DataW.trod_slice ht h with ⟨h, _⟩ | ⟨a, len, cap, elems, rest, n, _, h1, _, _, h2, h3, h4, h5, _⟩
  · exact .inl h
  · refine .inr ⟨a, len, cap, h1, h2, by simpa [maxLen] using h3, fun i hi => ?_⟩
    have hb := h5 i hi
    rw [List.getElem?_eq_getElem (by omega)] at hb
    obtain ⟨r, hr, hd⟩ := Option.bind_eq_some_iff.1 hb
    obtain ⟨_, g1, g2⟩ := World.cells?_some hr
    refine ⟨r, g1, ⟨n, _, hd⟩, fun j hj => ?_⟩
    rw [← g2 j hj, Addr.add_add]
/-- A row, by how its elements read. -/
theorem rd_rows {α : Type} {f : α → List Value} {Good : α → Prop} {sz : Nat} (ht : P.underlying t = some (.slice e)) (hc : P.cellsOf e = sz) (h0 : 0 < sz) (hf : ∀ a, (f a).length = sz)
    (each : ∀ r, Rd enc P w e r → ∃ a, r = f a ∧ Good a) (h : Rd enc P w t cs) : ∃ (v : Value) (l : List α), cs = [v] ∧ Sl [Hp.of w] sz v l.length (l.flatMap f) ∧ ∀ a ∈ l, Good a := by
  subst hc
  rcases rd_slice ht h with rfl | ⟨a, len, cap, rfl, h1, h2, h3⟩
  · exact ⟨_, [], rfl, ⟨none, 0, rfl, Nat.le_refl _, by omega, by simp, fun g => by simp at g⟩, fun a ha => by cases ha⟩
  · have key : ∀ k, k ≤ len → ∃ l : List α, l.length = k ∧ (∀ a ∈ l, Good a) ∧ ∀ i v, (l.flatMap f)[i]? = some v → w.cell? (a.add i) = some v := by
      intro k
      induction k with
      | zero => intro _; exact ⟨[], rfl, fun a ha => (by cases ha), fun i v hv => by simp at hv⟩
      | succ k ih =>
        intro hk
        obtain ⟨l, hl, hg, hcell⟩ := ih (by omega)
        obtain ⟨r, hr, hd, hrc⟩ := h3 k (by omega)
        obtain ⟨y, rfl, hy⟩ := each r hd
        refine ⟨l ++ [y], by simp [hl], fun a ha => ?_, fun i v hv => ?_⟩
        · rcases List.mem_append.1 ha with g | g
          · exact hg a g
          · rw [List.mem_singleton.1 g]; exact hy
        · rw [List.flatMap_append, List.flatMap_cons, List.flatMap_nil, List.append_nil] at hv
          have hlen := flat_len hf l
          rcases Nat.lt_or_ge i (l.flatMap f).length with g | g
          · rw [List.getElem?_append_left g] at hv; exact hcell i v hv
          · rw [List.getElem?_append_right g] at hv
            have hj : i - (l.flatMap f).length < P.cellsOf e := by rw [← hr]; exact (List.getElem?_eq_some_iff.1 hv).1
            have := hrc (i - (l.flatMap f).length) hj
            rw [hv] at this
            rw [← this]; congr 2
            rw [hlen, hl] at g hj ⊢; omega
    obtain ⟨l, hl, hg, hcell⟩ := key len (Nat.le_refl _)
    refine ⟨_, l, rfl, ⟨some a, cap, by rw [hl], by omega, h2, flat_len hf l, fun g => ?_⟩, hg⟩
    obtain ⟨b, off, rfl, hc⟩ := cells_row (w := w) (x := a) (vs := l.flatMap f) (by rw [flat_len hf l]; exact Nat.mul_pos g h0) hcell
    exact ⟨b, off, rfl, hc⟩
theorem flat_one {α : Type} (f : α → Value) : ∀ l : List α, l.flatMap (fun a => [f a]) = l.map f
  | [] => rfl
  | a :: l => by rw [List.flatMap_cons, flat_one f l]; rfl
theorem rd_row1 {α : Type} {f : α → Value} {Good : α → Prop} (ht : P.underlying t = some (.slice e)) (hc : P.cellsOf e = 1)
    (each : ∀ r, Rd enc P w e r → ∃ a, r = [f a] ∧ Good a) (h : Rd enc P w t cs) : ∃ (v : Value) (l : List α), cs = [v] ∧ Sl [Hp.of w] 1 v l.length (l.map f) ∧ ∀ a ∈ l, Good a := by
  obtain ⟨v, l, h1, h2, h3⟩ := rd_rows (f := fun a => [f a]) ht hc (by omega) (fun _ => rfl) each h
  exact ⟨v, l, h1, by rw [flat_one] at h2; exact h2, h3⟩
/-- bounds of an int -/
def I64 (n : Int) : Prop := -9223372036854775808 ≤ n ∧ n ≤ 9223372036854775807
theorem rd_ints (ht : P.underlying t = some (.slice e)) (he : P.underlying e = some (.int .i64)) (hc : P.cellsOf e = 1) (h : Rd enc P w t cs) : ∃ (v : Value) (l : List Int), cs = [v] ∧ Ints [Hp.of w] v l ∧ ∀ a ∈ l, I64 a :=
  rd_row1 ht hc (fun r hr => rd_i64 he hr) h
theorem rd_strings (ht : P.underlying t = some (.slice e)) (he : P.underlying e = some .string) (hc : P.cellsOf e = 1) (h : Rd enc P w t cs) : ∃ (v : Value) (l : List (List UInt8)), cs = [v] ∧ Sl [Hp.of w] 1 v l.length (l.map S) ∧ ∀ a ∈ l, a.length ≤ 9223372036854775807 :=
  rd_row1 ht hc (fun r hr => rd_string he hr) h
/-- a value of a type of one cell is its cell -/
theorem val_one {r : Reach} {b0 : Nat} {v u : Value} (hn : match P.underlying t with | some (.struct _) => False | some (.array _ _) => False | _ => True) (hval : Value.okWide P w r b0 t v) (h : v.cells.toList = [u]) : v = u := by
  cases v with
  | agg c =>
    unfold Value.okWide at hval
    cases hu : P.underlying t with
    | none => rw [hu] at hval; simp [Cell.okWide, Cell.ok, hu] at hval
    | some d => rw [hu] at hn hval; cases d <;> first | exact hn.elim | (simp [Cell.okWide, Cell.ok, hu] at hval)
  | _ => simpa [Value.cells] using h
end
end Go.Q
namespace Go.Q
open Go.Proofs
set_option linter.unusedVariables false
set_option maxRecDepth 100000
attribute [local irreducible] wpList OK Code.wp
theorem rd_rec {H : Type} {enc : TypeId × Value → H} {w : World} {cs : List Value} (h : Rd enc Try.prog w 32 cs) : ∃ a : Rec, cs = recC a ∧ True := by
  obtain ⟨hl, hf⟩ := rd_struct Try.underlying32 h
  have hl : cs.length = 11 := hl.trans (by kernel_rfl)
  obtain ⟨c0, c1, c2, c3, c4, c5, c6, c7, c8, c9, c10, rfl⟩ : ∃ c0 c1 c2 c3 c4 c5 c6 c7 c8 c9 c10, cs = [c0, c1, c2, c3, c4, c5, c6, c7, c8, c9, c10] := by
    match cs, hl with
    | [c0, c1, c2, c3, c4, c5, c6, c7, c8, c9, c10], _ => exact ⟨c0, c1, c2, c3, c4, c5, c6, c7, c8, c9, c10, rfl⟩
  have f0_6 : Rd enc Try.prog w 3 [c0] := rd_field (i := 0) (k := 1) hf rfl rfl (by kernel_rfl) rfl
  obtain ⟨n0, e0, b0⟩ := rd_i64 Try.underlying3 f0_6
  obtain rfl := (List.cons.inj e0).1
  have f1_9 : Rd enc Try.prog w 3 [c1] := rd_field (i := 1) (k := 1) hf rfl rfl (by kernel_rfl) rfl
  obtain ⟨n1, e1, b1⟩ := rd_i64 Try.underlying3 f1_9
  obtain rfl := (List.cons.inj e1).1
  have f2_12 : Rd enc Try.prog w 3 [c2] := rd_field (i := 2) (k := 1) hf rfl rfl (by kernel_rfl) rfl
  obtain ⟨n2, e2, b2⟩ := rd_i64 Try.underlying3 f2_12
  obtain rfl := (List.cons.inj e2).1
  have f3_15 : Rd enc Try.prog w 3 [c3] := rd_field (i := 3) (k := 1) hf rfl rfl (by kernel_rfl) rfl
  obtain ⟨n3, e3, b3⟩ := rd_i64 Try.underlying3 f3_15
  obtain rfl := (List.cons.inj e3).1
  have f4_18 : Rd enc Try.prog w 3 [c4] := rd_field (i := 4) (k := 1) hf rfl rfl (by kernel_rfl) rfl
  obtain ⟨n4, e4, b4⟩ := rd_i64 Try.underlying3 f4_18
  obtain rfl := (List.cons.inj e4).1
  have f5_21 : Rd enc Try.prog w 9 [c5] := rd_field (i := 5) (k := 1) hf rfl rfl (by kernel_rfl) rfl
  obtain ⟨n5, e5, b5⟩ := rd_string Try.underlying9 f5_21
  obtain rfl := (List.cons.inj e5).1
  have f6_24 : Rd enc Try.prog w 30 [c6, c7] := rd_field (i := 6) (k := 2) hf rfl rfl (by kernel_rfl) rfl
  obtain ⟨_, g6_25⟩ := rd_struct Try.underlying30 f6_24
  have f6_26 : Rd enc Try.prog w 4 [c6] := rd_field (i := 0) (k := 1) g6_25 rfl rfl (by kernel_rfl) rfl
  obtain ⟨n6, e6⟩ := rd_bool Try.underlying4 f6_26
  obtain rfl := (List.cons.inj e6).1
  have f7_29 : Rd enc Try.prog w 9 [c7] := rd_field (i := 1) (k := 1) g6_25 rfl rfl (by kernel_rfl) rfl
  obtain ⟨n7, e7, b7⟩ := rd_string Try.underlying9 f7_29
  obtain rfl := (List.cons.inj e7).1
  have f8_32 : Rd enc Try.prog w 30 [c8, c9] := rd_field (i := 7) (k := 2) hf rfl rfl (by kernel_rfl) rfl
  obtain ⟨_, g8_33⟩ := rd_struct Try.underlying30 f8_32
  have f8_34 : Rd enc Try.prog w 4 [c8] := rd_field (i := 0) (k := 1) g8_33 rfl rfl (by kernel_rfl) rfl
  obtain ⟨n8, e8⟩ := rd_bool Try.underlying4 f8_34
  obtain rfl := (List.cons.inj e8).1
  have f9_37 : Rd enc Try.prog w 9 [c9] := rd_field (i := 1) (k := 1) g8_33 rfl rfl (by kernel_rfl) rfl
  obtain ⟨n9, e9, b9⟩ := rd_string Try.underlying9 f9_37
  obtain rfl := (List.cons.inj e9).1
  have f10_40 : Rd enc Try.prog w 3 [c10] := rd_field (i := 8) (k := 1) hf rfl rfl (by kernel_rfl) rfl
  obtain ⟨n10, e10, b10⟩ := rd_i64 Try.underlying3 f10_40
  obtain rfl := (List.cons.inj e10).1
  exact ⟨⟨n0, n1, n2, n3, n4, n5, n6, n7, n8, n9, n10⟩, rfl, trivial⟩
theorem rd_recs {H : Type} {enc : TypeId × Value → H} {w : World} {cs : List Value} (h : Rd enc Try.prog w 22 cs) : ∃ (v : Value) (l : List Rec), cs = [v] ∧ Sl [Hp.of w] 11 v l.length (l.flatMap recC) ∧ ∀ a ∈ l, True :=
  rd_rows Try.underlying22 (by kernel_rfl) (by decide) recC_len (fun r hr => rd_rec hr) h
end Go.Q
