/-
  Parts of a walk: what functions of the program compute, each told by a theorem (QsSB, Qsa1, Qsm2, Qsf1, Qsf2, Qsm9, Qsm14, Qsa2, Qsa3, Qsa4, QsSh4, Qsa5, Qsm11, Qsm12, Qsm1).
-/
import Derived.Test.YtmfppdpfljpphaaGreatDoorB3
import Derived.Shelf.Strings.Trim
set_option linter.unusedVariables false
set_option linter.unusedSimpArgs false
set_option linter.unnecessarySimpa false
namespace Go.Q
open Go.Proofs
set_option linter.unusedVariables false
set_option maxRecDepth 100000
attribute [local irreducible] wpList OK Code.wp
set_option maxHeartbeats 4000000 in
theorem cc_f {E w : World} {R : List Hp} {bb : Nat} {v : Value} (hH : Has E w [[Hp.one bb (.cells #[(.pointer none), v] 249 (0, 0))], R]) :
    Calls Tryz.prog 264 #[(.pointer (some ⟨bb, 0, none⟩))] w fun e w' => e = .returned (.tuple #[]) ∧ Has E w' [[Hp.one bb (.cells #[(.pointer (some ⟨bb, 0, none⟩)), v] 249 (0, 0))], R] := by
  refine c_enter (args := [(.pointer (some ⟨bb, 0, none⟩))]) Tryz.func264 rfl Tryz.ntmps264 (by simp) ?_
  refine wp_seq_k fun K1 hK1 => ?_
  refine c_region ?_
  refine s_op (o_move (v := (.pointer (some ⟨bb, 0, none⟩))) rfl ?_)
  refine s_op (o_nilCheck rfl ?_)
  refine s_op (o_fieldAddr (k := 0) (fun _ => by kernel_rfl) rfl ?_)
  refine s_op (o_load1 (v := (.pointer none)) Tryz.underlying247 rfl rfl hH (seg_sub 0 rfl) (CellsAt.one rfl) ?_)
  refine s_op (o_pnil (p := none) Tryz.underlying247 rfl rfl ?_)
  refine s_nil ?_
  refine t_norm (hK1 _ _ ?_)
  refine c_true rfl rfl ?_
  refine c_region ?_
  refine s_op (o_move (v := (.pointer (some ⟨bb, 0, none⟩))) rfl ?_)
  refine s_op (o_move (v := (.pointer (some ⟨bb, 0, none⟩))) rfl ?_)
  refine s_op (o_toUnsafe Tryz.underlying247 Tryz.underlying407 ti249 (by decide) rfl hH (seg_sub 0 rfl) (Nat.zero_lt_succ 1) ?_)
  refine s_op (o_extern (v' := (.pointer (some ⟨bb, 0, none⟩))) rfl rfl (by rw [run_callFunc_extern Tryz.func324 (by kernel_rfl) (by kernel_rfl) (by kernel_rfl) (e := Extern.AbiNoEscape.same) (by kernel_rfl), Lib.run_noEscape]; rfl) ?_)
  refine s_op (o_fromUnsafe Tryz.underlying407 Tryz.underlying247 ti249 rfl hH (seg_sub 0 rfl) (by kernel_rfl) ?_)
  refine s_op (o_nilCheck rfl ?_)
  refine s_op (o_fieldAddr (k := 0) (fun _ => by kernel_rfl) rfl ?_)
  refine s_eff (o_store1 (c' := #[(.pointer (some ⟨bb, 0, none⟩)), v]) ti247 rfl rfl rfl (by simp) rfl (hH.front 0 rfl) fun w2 hH3 => ?_)
  refine s_nil ?_
  refine c_end0 Tryz.results264  ?_
  exact ⟨rfl, hH3⟩
set_option maxHeartbeats 4000000 in
theorem cc_u {E w : World} {R : List Hp} {bb : Nat} {v : Value} (hH : Has E w [[Hp.one bb (.cells #[(.pointer (some ⟨bb, 0, none⟩)), v] 249 (0, 0))], R]) :
    Calls Tryz.prog 264 #[(.pointer (some ⟨bb, 0, none⟩))] w fun e w' => e = .returned (.tuple #[]) ∧ Has E w' [[Hp.one bb (.cells #[(.pointer (some ⟨bb, 0, none⟩)), v] 249 (0, 0))], R] := by
  refine c_enter (args := [(.pointer (some ⟨bb, 0, none⟩))]) Tryz.func264 rfl Tryz.ntmps264 (by simp) ?_
  refine wp_seq_k fun K1 hK1 => ?_
  refine c_region ?_
  refine s_op (o_move (v := (.pointer (some ⟨bb, 0, none⟩))) rfl ?_)
  refine s_op (o_nilCheck rfl ?_)
  refine s_op (o_fieldAddr (k := 0) (fun _ => by kernel_rfl) rfl ?_)
  refine s_op (o_load1 (v := (.pointer (some ⟨bb, 0, none⟩))) Tryz.underlying247 rfl rfl hH (seg_sub 0 rfl) (CellsAt.one rfl) ?_)
  refine s_op (o_pnil (p := some _) Tryz.underlying247 rfl rfl ?_)
  refine s_nil ?_
  refine t_norm (hK1 _ _ ?_)
  refine c_false rfl rfl ?_
  refine wp_seq_k fun K2 hK2 => ?_
  refine c_region ?_
  refine s_op (o_move (v := (.pointer (some ⟨bb, 0, none⟩))) rfl ?_)
  refine s_op (o_nilCheck rfl ?_)
  refine s_op (o_fieldAddr (k := 0) (fun _ => by kernel_rfl) rfl ?_)
  refine s_op (o_load1 (v := (.pointer (some ⟨bb, 0, none⟩))) Tryz.underlying247 rfl rfl hH (seg_sub 0 rfl) (CellsAt.one rfl) ?_)
  refine s_op (o_move (v := (.pointer (some ⟨bb, 0, none⟩))) rfl ?_)
  refine s_op (o_pneqSame Tryz.underlying247 ti249 rfl rfl ?_)
  refine s_nil ?_
  refine t_norm (hK2 _ _ ?_)
  refine c_false rfl rfl ?_
  refine wp_skip ?_
  refine c_end0 Tryz.results264  ?_
  exact ⟨rfl, hH⟩
set_option maxHeartbeats 4000000 in
theorem ws_f {E w : World} {R hs : List Hp} {bb : Nat} {v : Value} {l : List UInt8} (hH : Has E w [hs, [Hp.one bb (.cells #[(.pointer none), v] 249 (0, 0))], R]) (ho : Own 5 1 v l.length (l.map bV) hs) (hnil : l = [] → v = .slice none 0 0) (s : List UInt8) (hb : l.length + s.length ≤ 140737488355328) :
    Calls Tryz.prog 179 #[(.pointer (some ⟨bb, 0, none⟩)), (S s)] w fun e w' => ∃ v' hs', e = .returned (.tuple #[.int .i64 (s.length : Int), .nilIface]) ∧ Own 5 1 v' (l ++ s).length ((l ++ s).map bV) hs' ∧ (l ++ s = [] → v' = .slice none 0 0) ∧ Has E w' [hs', [Hp.one bb (.cells #[(.pointer (some ⟨bb, 0, none⟩)), v'] 249 (0, 0))], R] := by
  refine c_enter (args := [(.pointer (some ⟨bb, 0, none⟩)), (S s)]) Tryz.func179 rfl Tryz.ntmps179 (by simp) ?_
  refine wp_seq_k fun K1 hK1 => ?_
  refine c_region ?_
  refine s_op (o_assign (v := (.int .i64 0)) rfl ?_)
  refine s_op (o_assign (v := Value.nilIface) rfl ?_)
  refine s_nil ?_
  refine t_norm (hK1 _ _ ?_)
  refine wp_seq_k fun K2 hK2 => ?_
  refine c_region ?_
  refine s_op (o_move (v := (.pointer (some ⟨bb, 0, none⟩))) rfl ?_)
  refine s_op (o_callf (vs := #[(.pointer (some ⟨bb, 0, none⟩))]) ca264 rfl (args1 rfl) (cc_f (hH.front 1 rfl).all1) ?_)
  rintro _ w5 ⟨rfl, hX3⟩
  refine ⟨_, rfl, ?_⟩
  have hH4 : Has E w5 [[Hp.one bb (.cells #[(.pointer (some ⟨bb, 0, none⟩)), v] 249 (0, 0))], hs, R] := hX3.of_all1
  refine s_nil ?_
  refine t_norm (hK2 _ _ ?_)
  refine wp_seq_k fun K6 hK6 => ?_
  refine c_region ?_
  refine s_op (o_move (v := (.pointer (some ⟨bb, 0, none⟩))) rfl ?_)
  refine s_op (o_move (v := (.pointer (some ⟨bb, 0, none⟩))) rfl ?_)
  refine s_op (o_nilCheck rfl ?_)
  refine s_op (o_fieldAddr (k := 1) (fun _ => by kernel_rfl) rfl ?_)
  refine s_op (o_load1 (v := v) Tryz.underlying30 rfl rfl hH4 (seg_sub 0 rfl) (CellsAt.one rfl) ?_)
  refine s_op (o_move (v := (S s)) rfl ?_)
  refine s_op (o_appstr Tryz.underlying30 Tryz.underlying9 ti5 rfl ho rfl (hH4.front 1 rfl) (by omega) fun v7 s8 w11 ho9 hn10 hH12 => ?_)
  have ho9 : Own 5 1 v7 (l ++ s).length ((l ++ s).map bV) s8 := by rw [List.length_append, List.map_append]; exact ho9
  refine s_op (o_nilCheck rfl ?_)
  refine s_op (o_fieldAddr (k := 1) (fun _ => by kernel_rfl) rfl ?_)
  refine s_eff (o_store1 (c' := #[(.pointer (some ⟨bb, 0, none⟩)), v7]) ti30 rfl rfl ho9.one (by simp) rfl (hH12.front 1 rfl) fun w13 hH14 => ?_)
  refine s_nil ?_
  refine t_norm (hK6 _ _ ?_)
  refine wp_seq_k fun K15 hK15 => ?_
  refine c_region ?_
  refine s_op (o_move (v := (S s)) rfl ?_)
  refine s_op (o_slen Tryz.underlying9 rfl ?_)
  refine s_op (o_assign (v := (.int .i64 (s.length : Int))) rfl ?_)
  refine s_op (o_assign (v := Value.nilIface) rfl ?_)
  refine s_nil ?_
  refine t_norm (hK15 _ _ ?_)
  refine wp_ret ?_
  refine c_ret2 Tryz.results179  (v := (.int .i64 (s.length : Int))) rfl (x := Value.nilIface) rfl ?_
  have hH16 : Has E w13 [s8, [Hp.one bb (.cells #[(.pointer (some ⟨bb, 0, none⟩)), v7] 249 (0, 0))], R] := (((hH14.front 2 rfl).front 1 rfl).front 2 rfl).first 3 rfl
  exact ⟨_, _, rfl, ho9, fun h => hn10 (hnil (List.append_eq_nil_iff.1 h).1) (List.append_eq_nil_iff.1 h).2, hH16⟩
set_option maxHeartbeats 4000000 in
theorem ws_u {E w : World} {R hs : List Hp} {bb : Nat} {v : Value} {l : List UInt8} (hH : Has E w [hs, [Hp.one bb (.cells #[(.pointer (some ⟨bb, 0, none⟩)), v] 249 (0, 0))], R]) (ho : Own 5 1 v l.length (l.map bV) hs) (hnil : l = [] → v = .slice none 0 0) (s : List UInt8) (hb : l.length + s.length ≤ 140737488355328) :
    Calls Tryz.prog 179 #[(.pointer (some ⟨bb, 0, none⟩)), (S s)] w fun e w' => ∃ v' hs', e = .returned (.tuple #[.int .i64 (s.length : Int), .nilIface]) ∧ Own 5 1 v' (l ++ s).length ((l ++ s).map bV) hs' ∧ (l ++ s = [] → v' = .slice none 0 0) ∧ Has E w' [hs', [Hp.one bb (.cells #[(.pointer (some ⟨bb, 0, none⟩)), v'] 249 (0, 0))], R] := by
  refine c_enter (args := [(.pointer (some ⟨bb, 0, none⟩)), (S s)]) Tryz.func179 rfl Tryz.ntmps179 (by simp) ?_
  refine wp_seq_k fun K1 hK1 => ?_
  refine c_region ?_
  refine s_op (o_assign (v := (.int .i64 0)) rfl ?_)
  refine s_op (o_assign (v := Value.nilIface) rfl ?_)
  refine s_nil ?_
  refine t_norm (hK1 _ _ ?_)
  refine wp_seq_k fun K2 hK2 => ?_
  refine c_region ?_
  refine s_op (o_move (v := (.pointer (some ⟨bb, 0, none⟩))) rfl ?_)
  refine s_op (o_callf (vs := #[(.pointer (some ⟨bb, 0, none⟩))]) ca264 rfl (args1 rfl) (cc_u (hH.front 1 rfl).all1) ?_)
  rintro _ w5 ⟨rfl, hX3⟩
  refine ⟨_, rfl, ?_⟩
  have hH4 : Has E w5 [[Hp.one bb (.cells #[(.pointer (some ⟨bb, 0, none⟩)), v] 249 (0, 0))], hs, R] := hX3.of_all1
  refine s_nil ?_
  refine t_norm (hK2 _ _ ?_)
  refine wp_seq_k fun K6 hK6 => ?_
  refine c_region ?_
  refine s_op (o_move (v := (.pointer (some ⟨bb, 0, none⟩))) rfl ?_)
  refine s_op (o_move (v := (.pointer (some ⟨bb, 0, none⟩))) rfl ?_)
  refine s_op (o_nilCheck rfl ?_)
  refine s_op (o_fieldAddr (k := 1) (fun _ => by kernel_rfl) rfl ?_)
  refine s_op (o_load1 (v := v) Tryz.underlying30 rfl rfl hH4 (seg_sub 0 rfl) (CellsAt.one rfl) ?_)
  refine s_op (o_move (v := (S s)) rfl ?_)
  refine s_op (o_appstr Tryz.underlying30 Tryz.underlying9 ti5 rfl ho rfl (hH4.front 1 rfl) (by omega) fun v7 s8 w11 ho9 hn10 hH12 => ?_)
  have ho9 : Own 5 1 v7 (l ++ s).length ((l ++ s).map bV) s8 := by rw [List.length_append, List.map_append]; exact ho9
  refine s_op (o_nilCheck rfl ?_)
  refine s_op (o_fieldAddr (k := 1) (fun _ => by kernel_rfl) rfl ?_)
  refine s_eff (o_store1 (c' := #[(.pointer (some ⟨bb, 0, none⟩)), v7]) ti30 rfl rfl ho9.one (by simp) rfl (hH12.front 1 rfl) fun w13 hH14 => ?_)
  refine s_nil ?_
  refine t_norm (hK6 _ _ ?_)
  refine wp_seq_k fun K15 hK15 => ?_
  refine c_region ?_
  refine s_op (o_move (v := (S s)) rfl ?_)
  refine s_op (o_slen Tryz.underlying9 rfl ?_)
  refine s_op (o_assign (v := (.int .i64 (s.length : Int))) rfl ?_)
  refine s_op (o_assign (v := Value.nilIface) rfl ?_)
  refine s_nil ?_
  refine t_norm (hK15 _ _ ?_)
  refine wp_ret ?_
  refine c_ret2 Tryz.results179  (v := (.int .i64 (s.length : Int))) rfl (x := Value.nilIface) rfl ?_
  have hH16 : Has E w13 [s8, [Hp.one bb (.cells #[(.pointer (some ⟨bb, 0, none⟩)), v7] 249 (0, 0))], R] := (((hH14.front 2 rfl).front 1 rfl).front 2 rfl).first 3 rfl
  exact ⟨_, _, rfl, ho9, fun h => hn10 (hnil (List.append_eq_nil_iff.1 h).1) (List.append_eq_nil_iff.1 h).2, hH16⟩
set_option maxHeartbeats 4000000 in
theorem bs_nil {E w : World} {R : List Hp} {bb : Nat} {a : Value} (hH : Has E w [[Hp.one bb (.cells #[a, (.slice none 0 0)] 249 (0, 0))], R]) :
    Calls Tryz.prog 181 #[(.pointer (some ⟨bb, 0, none⟩))] w fun e w' => e = .returned (S ([] : List UInt8)) ∧ Has E w' [R] := by
  refine c_enter (args := [(.pointer (some ⟨bb, 0, none⟩))]) Tryz.func181 rfl Tryz.ntmps181 (by simp) ?_
  refine wp_seq_k fun K1 hK1 => ?_
  refine c_region ?_
  refine s_op (o_assign (v := (S ([] : List UInt8))) rfl ?_)
  refine s_nil ?_
  refine t_norm (hK1 _ _ ?_)
  refine wp_seq_k fun K2 hK2 => ?_
  refine Rest.region mixed (by kernel_rfl) ?_
  have hH3 : Has E { w with drawn := w.drawn + 1 } [[Hp.one bb (.cells #[a, (.slice none 0 0)] 249 (0, 0))], R] := Has0.drew hH _
  refine Rest.phaseA (fun w_ => Has E w_ [[Hp.one bb (.cells #[a, (.slice none 0 0)] 249 (0, 0))]]) 0 10 10 rfl (by decide) (by kernel_rfl) ?_
  refine a_op 0 rfl (by kernel_rfl) (fun w_ h_ => o_move (v := (.pointer (some ⟨bb, 0, none⟩))) rfl ⟨rfl, rfl⟩) ?_
  refine a_op 1 rfl (by kernel_rfl) (fun w_ h_ => o_nilCheck rfl ⟨rfl, rfl⟩) ?_
  refine a_op 2 rfl (by kernel_rfl) (fun w_ h_ => o_fieldAddr (k := 1) (fun _ => by kernel_rfl) rfl ⟨rfl, rfl⟩) ?_
  refine a_op 3 rfl (by kernel_rfl) (fun w_ h_ => o_load1 (v := (.slice none 0 0)) Tryz.underlying30 rfl rfl h_ (seg_sub 0 rfl) (CellsAt.one rfl) ⟨rfl, rfl⟩) ?_
  refine a_op 5 rfl (by kernel_rfl) (fun w_ h_ => o_move (v := (.pointer (some ⟨bb, 0, none⟩))) rfl ⟨rfl, rfl⟩) ?_
  refine a_op 6 rfl (by kernel_rfl) (fun w_ h_ => o_nilCheck rfl ⟨rfl, rfl⟩) ?_
  refine a_op 7 rfl (by kernel_rfl) (fun w_ h_ => o_fieldAddr (k := 1) (fun _ => by kernel_rfl) rfl ⟨rfl, rfl⟩) ?_
  refine a_op 8 rfl (by kernel_rfl) (fun w_ h_ => o_load1 (v := (.slice none 0 0)) Tryz.underlying30 rfl rfl h_ (seg_sub 0 rfl) (CellsAt.one rfl) ⟨rfl, rfl⟩) ?_
  refine a_op 9 rfl (by kernel_rfl) (fun w_ h_ => o_lenS Tryz.underlying30 rfl (sl_nil (L := []) 1) ⟨rfl, rfl⟩) ?_
  have hH4 : Has E { w with drawn := w.drawn + 1 } [[Hp.one bb (.cells #[a, (.slice none 0 0)] 249 (0, 0))]] := hH3.first 1 rfl
  refine a_w 4 rfl (by kernel_rfl) hH4 (o_uSDnil rfl ?_)
  have hH5 : Has E { w with drawn := w.drawn + 1 } [[Hp.one bb (.cells #[a, (.slice none 0 0)] 249 (0, 0))]] := hH3.first 1 rfl
  refine a_done (by kernel_rfl) hH5 ?_
  refine r_op 10 rfl (by kernel_rfl) (o_uStrNil rfl rfl ?_)
  refine r_op 11 rfl (by kernel_rfl) (o_assign (v := (S ([] : List UInt8))) rfl ?_)
  refine Rest.done (by kernel_rfl) ?_
  refine t_norm (hK2 _ _ ?_)
  refine wp_ret ?_
  refine c_ret1 Tryz.results181  (v := (S ([] : List UInt8))) rfl ?_
  have hH6 : Has E { w with drawn := w.drawn + 1 } [R] := (hH3.front 1 rfl).first 1 rfl
  exact ⟨rfl, hH6⟩
set_option maxHeartbeats 4000000 in
theorem bs_row {E w : World} {R : List Hp} {bb : Nat} {a : Value} {g cap : Nat} {hs : List Hp} {l : List UInt8} (hH : Has E w [hs, [Hp.one bb (.cells #[a, (.slice (some ⟨g, 0, none⟩) l.length cap)] 249 (0, 0))], R]) (ho : Own 5 1 (.slice (some ⟨g, 0, none⟩) l.length cap) l.length (l.map bV) hs) (hne : l ≠ []) (hcap : cap ≠ 0) :
    Calls Tryz.prog 181 #[(.pointer (some ⟨bb, 0, none⟩))] w fun e w' => e = .returned (S l) ∧ Has E w' [R] := by
  refine c_enter (args := [(.pointer (some ⟨bb, 0, none⟩))]) Tryz.func181 rfl Tryz.ntmps181 (by simp) ?_
  refine wp_seq_k fun K1 hK1 => ?_
  refine c_region ?_
  refine s_op (o_assign (v := (S ([] : List UInt8))) rfl ?_)
  refine s_nil ?_
  refine t_norm (hK1 _ _ ?_)
  refine wp_seq_k fun K2 hK2 => ?_
  refine Rest.region mixed (by kernel_rfl) ?_
  have hH3 : Has E { w with drawn := w.drawn + 1 } [hs, [Hp.one bb (.cells #[a, (.slice (some ⟨g, 0, none⟩) l.length cap)] 249 (0, 0))], R] := Has0.drew hH _
  refine Rest.phaseA (fun w_ => Has E w_ [[Hp.one bb (.cells #[a, (.slice (some ⟨g, 0, none⟩) l.length cap)] 249 (0, 0))]]) 0 10 10 rfl (by decide) (by kernel_rfl) ?_
  refine a_op 0 rfl (by kernel_rfl) (fun w_ h_ => o_move (v := (.pointer (some ⟨bb, 0, none⟩))) rfl ⟨rfl, rfl⟩) ?_
  refine a_op 1 rfl (by kernel_rfl) (fun w_ h_ => o_nilCheck rfl ⟨rfl, rfl⟩) ?_
  refine a_op 2 rfl (by kernel_rfl) (fun w_ h_ => o_fieldAddr (k := 1) (fun _ => by kernel_rfl) rfl ⟨rfl, rfl⟩) ?_
  refine a_op 3 rfl (by kernel_rfl) (fun w_ h_ => o_load1 (v := (.slice (some ⟨g, 0, none⟩) l.length cap)) Tryz.underlying30 rfl rfl h_ (seg_sub 0 rfl) (CellsAt.one rfl) ⟨rfl, rfl⟩) ?_
  refine a_op 5 rfl (by kernel_rfl) (fun w_ h_ => o_move (v := (.pointer (some ⟨bb, 0, none⟩))) rfl ⟨rfl, rfl⟩) ?_
  refine a_op 6 rfl (by kernel_rfl) (fun w_ h_ => o_nilCheck rfl ⟨rfl, rfl⟩) ?_
  refine a_op 7 rfl (by kernel_rfl) (fun w_ h_ => o_fieldAddr (k := 1) (fun _ => by kernel_rfl) rfl ⟨rfl, rfl⟩) ?_
  refine a_op 8 rfl (by kernel_rfl) (fun w_ h_ => o_load1 (v := (.slice (some ⟨g, 0, none⟩) l.length cap)) Tryz.underlying30 rfl rfl h_ (seg_sub 0 rfl) (CellsAt.one rfl) ⟨rfl, rfl⟩) ?_
  refine a_op 9 rfl (by kernel_rfl) (fun w_ h_ => o_lenS Tryz.underlying30 rfl ho.sl ⟨rfl, rfl⟩) ?_
  have hH4 : Has E { w with drawn := w.drawn + 1 } [[Hp.one bb (.cells #[a, (.slice (some ⟨g, 0, none⟩) l.length cap)] 249 (0, 0))]] := (hH3.front 1 rfl).first 1 rfl
  refine a_w 4 rfl (by kernel_rfl) hH4 (o_uSD (a := ⟨g, 0, none⟩) rfl hcap ?_)
  have hH5 : Has E { w with drawn := w.drawn + 1 } [[Hp.one bb (.cells #[a, (.slice (some ⟨g, 0, none⟩) l.length cap)] 249 (0, 0))]] := (hH3.front 1 rfl).first 1 rfl
  refine a_done (by kernel_rfl) hH5 ?_
  refine r_op 10 rfl (by kernel_rfl) (o_uStr Tryz.underlying356 (by kernel_rfl) rfl rfl ho hne hH3 fun w6 hH7 => ?_)
  refine r_op 11 rfl (by kernel_rfl) (o_assign (v := (S l)) rfl ?_)
  refine Rest.done (by kernel_rfl) ?_
  refine t_norm (hK2 _ _ ?_)
  refine wp_ret ?_
  refine c_ret1 Tryz.results181  (v := (S l)) rfl ?_
  have hH8 : Has E w6 [R] := (hH7.front 1 rfl).first 1 rfl
  exact ⟨rfl, hH8⟩
/-- A builder that holds these bytes. -/
def Bld (b : Nat) (l : List UInt8) (sg : List Hp) : Prop := ∃ a v hs, sg = hs ++ [Hp.one b (.cells #[a, v] 249 (0, 0))] ∧ (a = .pointer none ∨ a = .pointer (some ⟨b, 0, none⟩)) ∧ Own 5 1 v l.length (l.map bV) hs ∧ (l = [] → v = .slice none 0 0)
theorem Bld.new (b : Nat) : Bld b [] [Hp.one b (.cells #[.pointer none, .slice none 0 0] 249 (0, 0))] := ⟨_, _, [], rfl, .inl rfl, Own.nil 5 1, fun _ => rfl⟩
theorem bws {E w : World} {R sg : List Hp} {b : Nat} {l : List UInt8} (hH : Has E w [sg, R]) (hB : Bld b l sg) (s : List UInt8) (hb : l.length + s.length ≤ 140737488355328) :
    Calls Tryz.prog 179 #[.pointer (some ⟨b, 0, none⟩), S s] w fun e w' => ∃ sg', e = .returned (.tuple #[.int .i64 (s.length : Int), .nilIface]) ∧ Bld b (l ++ s) sg' ∧ Has E w' [sg', R] := by
  obtain ⟨a, v, hs, rfl, rfl | rfl, ho, hn⟩ := hB
  · exact (ws_f hH.open2 ho hn s hb).mono fun e w' ⟨v', hs', he, ho', hn', hH'⟩ => ⟨_, he, ⟨_, _, _, rfl, .inr rfl, ho', hn'⟩, hH'.close2⟩
  · exact (ws_u hH.open2 ho hn s hb).mono fun e w' ⟨v', hs', he, ho', hn', hH'⟩ => ⟨_, he, ⟨_, _, _, rfl, .inr rfl, ho', hn'⟩, hH'.close2⟩
theorem bstr {E w : World} {R sg : List Hp} {b : Nat} {l : List UInt8} (hH : Has E w [sg, R]) (hB : Bld b l sg) :
    Calls Tryz.prog 181 #[.pointer (some ⟨b, 0, none⟩)] w fun e w' => e = .returned (S l) ∧ Has E w' [R] := by
  obtain ⟨a, v, hs, rfl, _, ho, hn⟩ := hB
  by_cases hl : l = []
  · obtain rfl := hn hl
    subst hl
    exact bs_nil hH.open2.drop
  · have ho2 := ho
    obtain ⟨hlc, ⟨_, h, _⟩ | ⟨g, cap, cur, rfl, rfl, hnc, _⟩⟩ := ho
    · exact absurd (List.eq_nil_of_length_eq_zero h) hl
    · exact bs_row hH.open2 ho2 hl (fun e => hl (List.eq_nil_of_length_eq_zero (by omega)))
end Go.Q
namespace Go.Q
open Go.Proofs
set_option linter.unusedVariables false
set_option maxRecDepth 100000
attribute [local irreducible] wpList OK Code.wp
set_option maxHeartbeats 4000000 in
theorem alen_c {E w : World} {R : List Hp} {ab db : Nat} {fr n : Int} (hH : Has E w [[Hp.one ab (.cells #[(.pointer (some ⟨db, 0, none⟩)), (.int .i64 fr), (.int .i64 n)] 265 (0, 0))], R]) (hn : 1 ≤ n ∧ n ≤ 4096) :
    Calls Tryz.prog 99 #[(.pointer (some ⟨ab, 0, none⟩))] w fun e w' => e = .returned (.int .i64 (n * 64)) ∧ Has E w' [[Hp.one ab (.cells #[(.pointer (some ⟨db, 0, none⟩)), (.int .i64 fr), (.int .i64 n)] 265 (0, 0))], R] := by
  obtain ⟨hn1, hn2⟩ := hn
  refine c_enter (args := [(.pointer (some ⟨ab, 0, none⟩))]) Tryz.func99 rfl Tryz.ntmps99 (by simp) ?_
  refine wp_seq_k fun K1 hK1 => ?_
  refine c_region ?_
  refine s_op (o_assign (v := (.int .i64 0)) rfl ?_)
  refine s_nil ?_
  refine t_norm (hK1 _ _ ?_)
  refine wp_seq_k fun K2 hK2 => ?_
  refine wp_seq_k fun K3 hK3 => ?_
  refine c_region ?_
  refine s_op (o_move (v := (.pointer (some ⟨ab, 0, none⟩))) rfl ?_)
  refine s_op (o_pnil (p := some _) Tryz.underlying160 rfl rfl ?_)
  refine s_nil ?_
  refine t_norm (hK3 _ _ ?_)
  refine c_false rfl rfl ?_
  refine wp_skip ?_
  refine t_norm (hK2 _ _ ?_)
  refine wp_seq_k fun K4 hK4 => ?_
  refine c_region ?_
  refine s_op (o_move (v := (.pointer (some ⟨ab, 0, none⟩))) rfl ?_)
  refine s_op (o_nilCheck rfl ?_)
  refine s_op (o_fieldAddr (k := 2) (fun _ => by kernel_rfl) rfl ?_)
  refine s_op (o_load1 (v := (.int .i64 n)) Tryz.underlying3 rfl rfl hH (seg_sub 0 rfl) (CellsAt.one rfl) ?_)
  refine s_op (o_mul (a := n) (b := 64) rfl rfl (w64 (by omega) (by omega)) ?_)
  refine s_op (o_assign (v := (.int .i64 (n * 64))) rfl ?_)
  refine s_nil ?_
  refine t_norm (hK4 _ _ ?_)
  refine wp_ret ?_
  refine c_ret1 Tryz.results99  (v := (.int .i64 (n * 64))) rfl ?_
  exact ⟨rfl, hH⟩
set_option maxHeartbeats 4000000 in
theorem amay_c {E w : World} {R : List Hp} {ab db : Nat} {fr n : Int} (hH : Has E w [[Hp.one ab (.cells #[(.pointer (some ⟨db, 0, none⟩)), (.int .i64 fr), (.int .i64 n)] 265 (0, 0))], R]) (hn : 1 ≤ n ∧ n ≤ 4096) (at_ size : Int) :
    Calls Tryz.prog 191 #[(.pointer (some ⟨ab, 0, none⟩)), (.int .i64 at_), (.int .i64 size)] w fun e w' => e = .returned (.bool (decide (0 ≤ at_ ∧ at_ ≤ 4611686018427387904 ∧ 0 ≤ size ∧ size ≤ n * 64))) ∧ Has E w' [[Hp.one ab (.cells #[(.pointer (some ⟨db, 0, none⟩)), (.int .i64 fr), (.int .i64 n)] 265 (0, 0))], R] := by
  obtain ⟨hn1, hn2⟩ := hn
  refine c_enter (args := [(.pointer (some ⟨ab, 0, none⟩)), (.int .i64 at_), (.int .i64 size)]) Tryz.func191 rfl Tryz.ntmps191 (by simp) ?_
  refine wp_seq_k fun K1 hK1 => ?_
  refine c_region ?_
  refine s_op (o_assign (v := (.bool false)) rfl ?_)
  refine s_nil ?_
  refine t_norm (hK1 _ _ ?_)
  refine wp_seq_k fun K2 hK2 => ?_
  refine c_region ?_
  refine s_op (o_move (v := (.pointer (some ⟨ab, 0, none⟩))) rfl ?_)
  refine s_op (o_pnnil (p := some _) Tryz.underlying160 rfl rfl ?_)
  refine s_op (o_move (v := (.bool true)) rfl ?_)
  refine s_on 9 rfl rfl (o_move (v := (.int .i64 at_)) rfl ?_)
  refine s_on 9 rfl rfl (o_geq (a := at_) (b := 0) rfl rfl ?_)
  refine s_op (o_pick_t (u := (.bool (decide (0 ≤ at_)))) rfl rfl ?_)
  refine s_op (o_move (v := (.bool (decide (0 ≤ at_)))) rfl ?_)
  by_cases h3 : 0 ≤ at_
  · -- 0 ≤ at_
    refine s_on 13 rfl (congrArg Value.bool (decide_eq_true h3)) (o_move (v := (.int .i64 at_)) rfl ?_)
    refine s_on 13 rfl (congrArg Value.bool (decide_eq_true h3)) (o_leq (a := at_) (b := 4611686018427387904) rfl rfl ?_)
    refine s_op (o_pick_t (u := (.bool (decide (at_ ≤ 4611686018427387904)))) ((rfl : _ = _).trans (congrArg Value.bool (decide_eq_true h3))) rfl ?_)
    refine s_op (o_move (v := (.bool (decide (at_ ≤ 4611686018427387904)))) rfl ?_)
    by_cases h4 : at_ ≤ 4611686018427387904
    · -- at_ ≤ 4611686018427387904
      refine s_on 17 rfl (congrArg Value.bool (decide_eq_true h4)) (o_move (v := (.int .i64 size)) rfl ?_)
      refine s_on 17 rfl (congrArg Value.bool (decide_eq_true h4)) (o_geq (a := size) (b := 0) rfl rfl ?_)
      refine s_op (o_pick_t (u := (.bool (decide (0 ≤ size)))) ((rfl : _ = _).trans (congrArg Value.bool (decide_eq_true h4))) rfl ?_)
      refine s_op (o_move (v := (.bool (decide (0 ≤ size)))) rfl ?_)
      by_cases h5 : 0 ≤ size
      · -- 0 ≤ size
        refine s_on 21 rfl (congrArg Value.bool (decide_eq_true h5)) (o_move (v := (.int .i64 size)) rfl ?_)
        refine s_on 21 rfl (congrArg Value.bool (decide_eq_true h5)) (o_move (v := (.pointer (some ⟨ab, 0, none⟩))) rfl ?_)
        refine s_on 21 rfl (congrArg Value.bool (decide_eq_true h5)) (o_callf (vs := #[(.pointer (some ⟨ab, 0, none⟩))]) ca99 rfl (args1 rfl) (alen_c hH.all1 ⟨by omega, by omega⟩) ?_)
        rintro _ w8 ⟨rfl, hX6⟩
        refine ⟨_, rfl, ?_⟩
        have hH7 : Has E w8 [[Hp.one ab (.cells #[(.pointer (some ⟨db, 0, none⟩)), (.int .i64 fr), (.int .i64 n)] 265 (0, 0))], R] := hX6.of_all1
        refine s_on 21 rfl (congrArg Value.bool (decide_eq_true h5)) (o_leq (a := size) (b := n * 64) rfl rfl ?_)
        refine s_op (o_pick_t (u := (.bool (decide (size ≤ n * 64)))) ((rfl : _ = _).trans (congrArg Value.bool (decide_eq_true h5))) rfl ?_)
        refine s_op (o_assign (v := (.bool (decide (size ≤ n * 64)))) rfl ?_)
        refine s_nil ?_
        refine t_norm (hK2 _ _ ?_)
        refine wp_ret ?_
        refine c_ret1 Tryz.results191  (v := (.bool (decide (size ≤ n * 64)))) rfl ?_
        have e_ : decide (size ≤ n * 64) = decide (0 ≤ at_ ∧ at_ ≤ 4611686018427387904 ∧ 0 ≤ size ∧ size ≤ n * 64) := by first | (simp [h3, h4, h5]; done) | (rw [eq_comm, decide_eq_false_iff_not]; omega) | (rw [eq_comm, decide_eq_true_iff]; omega) | (congr 1; apply propext; constructor <;> intro _ <;> first | omega | (refine ⟨?_, ?_, ?_, ?_⟩ <;> omega))
        exact ⟨by rw [← e_], hH7⟩
      · -- not: 0 ≤ size
        refine s_off (b' := false) 21 rfl (congrArg Value.bool (decide_eq_false h5)) rfl ?_
        refine s_off (b' := false) 21 rfl (congrArg Value.bool (decide_eq_false h5)) rfl ?_
        refine s_off (b' := false) 21 rfl (congrArg Value.bool (decide_eq_false h5)) rfl ?_
        refine s_off (b' := false) 21 rfl (congrArg Value.bool (decide_eq_false h5)) rfl ?_
        refine s_op (o_pick_f (u := (.bool false)) ((rfl : _ = _).trans (congrArg Value.bool (decide_eq_false h5))) rfl ?_)
        refine s_op (o_assign (v := (.bool false)) rfl ?_)
        refine s_nil ?_
        refine t_norm (hK2 _ _ ?_)
        refine wp_ret ?_
        refine c_ret1 Tryz.results191  (v := (.bool false)) rfl ?_
        have e_ : false = decide (0 ≤ at_ ∧ at_ ≤ 4611686018427387904 ∧ 0 ≤ size ∧ size ≤ n * 64) := by first | (simp [h3, h4, h5]; done) | (rw [eq_comm, decide_eq_false_iff_not]; omega) | (rw [eq_comm, decide_eq_true_iff]; omega) | (congr 1; apply propext; constructor <;> intro _ <;> first | omega | (refine ⟨?_, ?_, ?_, ?_⟩ <;> omega))
        exact ⟨by rw [← e_], hH⟩
    · -- not: at_ ≤ 4611686018427387904
      refine s_off (b' := false) 17 rfl (congrArg Value.bool (decide_eq_false h4)) rfl ?_
      refine s_off (b' := false) 17 rfl (congrArg Value.bool (decide_eq_false h4)) rfl ?_
      refine s_op (o_pick_f (u := (.bool false)) ((rfl : _ = _).trans (congrArg Value.bool (decide_eq_false h4))) rfl ?_)
      refine s_op (o_move (v := (.bool false)) rfl ?_)
      refine s_off (b' := false) 21 rfl rfl rfl ?_
      refine s_off (b' := false) 21 rfl rfl rfl ?_
      refine s_off (b' := false) 21 rfl rfl rfl ?_
      refine s_off (b' := false) 21 rfl rfl rfl ?_
      refine s_op (o_pick_f (u := (.bool false)) rfl rfl ?_)
      refine s_op (o_assign (v := (.bool false)) rfl ?_)
      refine s_nil ?_
      refine t_norm (hK2 _ _ ?_)
      refine wp_ret ?_
      refine c_ret1 Tryz.results191  (v := (.bool false)) rfl ?_
      have e_ : false = decide (0 ≤ at_ ∧ at_ ≤ 4611686018427387904 ∧ 0 ≤ size ∧ size ≤ n * 64) := by first | (simp [h3, h4]; done) | (rw [eq_comm, decide_eq_false_iff_not]; omega) | (rw [eq_comm, decide_eq_true_iff]; omega) | (congr 1; apply propext; constructor <;> intro _ <;> first | omega | (refine ⟨?_, ?_, ?_, ?_⟩ <;> omega))
      exact ⟨by rw [← e_], hH⟩
  · -- not: 0 ≤ at_
    refine s_off (b' := false) 13 rfl (congrArg Value.bool (decide_eq_false h3)) rfl ?_
    refine s_off (b' := false) 13 rfl (congrArg Value.bool (decide_eq_false h3)) rfl ?_
    refine s_op (o_pick_f (u := (.bool false)) ((rfl : _ = _).trans (congrArg Value.bool (decide_eq_false h3))) rfl ?_)
    refine s_op (o_move (v := (.bool false)) rfl ?_)
    refine s_off (b' := false) 17 rfl rfl rfl ?_
    refine s_off (b' := false) 17 rfl rfl rfl ?_
    refine s_op (o_pick_f (u := (.bool false)) rfl rfl ?_)
    refine s_op (o_move (v := (.bool false)) rfl ?_)
    refine s_off (b' := false) 21 rfl rfl rfl ?_
    refine s_off (b' := false) 21 rfl rfl rfl ?_
    refine s_off (b' := false) 21 rfl rfl rfl ?_
    refine s_off (b' := false) 21 rfl rfl rfl ?_
    refine s_op (o_pick_f (u := (.bool false)) rfl rfl ?_)
    refine s_op (o_assign (v := (.bool false)) rfl ?_)
    refine s_nil ?_
    refine t_norm (hK2 _ _ ?_)
    refine wp_ret ?_
    refine c_ret1 Tryz.results191  (v := (.bool false)) rfl ?_
    have e_ : false = decide (0 ≤ at_ ∧ at_ ≤ 4611686018427387904 ∧ 0 ≤ size ∧ size ≤ n * 64) := by first | (simp [h3]; done) | (rw [eq_comm, decide_eq_false_iff_not]; omega) | (rw [eq_comm, decide_eq_true_iff]; omega) | (congr 1; apply propext; constructor <;> intro _ <;> first | omega | (refine ⟨?_, ?_, ?_, ?_⟩ <;> omega))
    exact ⟨by rw [← e_], hH⟩
set_option maxHeartbeats 4000000 in
theorem pieces_c {E w : World} {R : List Hp} {ab db : Nat} {fr n : Int} (hH : Has E w [[Hp.one ab (.cells #[(.pointer (some ⟨db, 0, none⟩)), (.int .i64 fr), (.int .i64 n)] 265 (0, 0))], R]) (hn : 1 ≤ n ∧ n ≤ 4096) (hfr : 0 ≤ fr ∧ fr ≤ 4096) {at_ size : Int} (hat : 0 ≤ at_ ∧ at_ ≤ 4611686018427387904) (hsz : 0 ≤ size ∧ size ≤ n * 64) :
    Calls Tryz.prog 192 #[(.pointer (some ⟨ab, 0, none⟩)), (.int .i64 at_), (.int .i64 size)] w fun e w' => ∃ v' hs', e = .returned v' ∧ Own 269 3 v' (allP fr (n * 64) (at_ % (n * 64)) size).length ((allP fr (n * 64) (at_ % (n * 64)) size).flatMap pcC) hs' ∧ Has E w' [hs', [Hp.one ab (.cells #[(.pointer (some ⟨db, 0, none⟩)), (.int .i64 fr), (.int .i64 n)] 265 (0, 0))], R] := by
  obtain ⟨hn1, hn2⟩ := hn
  obtain ⟨hfr1, hfr2⟩ := hfr
  obtain ⟨hat1, hat2⟩ := hat
  obtain ⟨hsz1, hsz2⟩ := hsz
  refine c_enter (args := [(.pointer (some ⟨ab, 0, none⟩)), (.int .i64 at_), (.int .i64 size)]) Tryz.func192 rfl Tryz.ntmps192 (by simp) ?_
  refine wp_seq_k fun K1 hK1 => ?_
  refine c_region ?_
  refine s_op (o_assign (v := (.slice none 0 0)) rfl ?_)
  refine s_nil ?_
  refine t_norm (hK1 _ _ ?_)
  refine wp_seq_k fun K2 hK2 => ?_
  refine c_region ?_
  refine s_op (o_assign (v := (.slice none 0 0)) rfl ?_)
  refine s_nil ?_
  refine t_norm (hK2 _ _ ?_)
  refine wp_seq_k fun K3 hK3 => ?_
  refine wp_seq_k fun K4 hK4 => ?_
  refine c_region ?_
  refine s_op (o_move (v := (.int .i64 at_)) rfl ?_)
  refine s_op (o_move (v := (.pointer (some ⟨ab, 0, none⟩))) rfl ?_)
  refine s_op (o_callf (vs := #[(.pointer (some ⟨ab, 0, none⟩))]) ca99 rfl (args1 rfl) (alen_c hH.all1 ⟨by omega, by omega⟩) ?_)
  rintro _ w7 ⟨rfl, hX5⟩
  refine ⟨_, rfl, ?_⟩
  have hH6 : Has E w7 [[Hp.one ab (.cells #[(.pointer (some ⟨db, 0, none⟩)), (.int .i64 fr), (.int .i64 n)] 265 (0, 0))], R] := hX5.of_all1
  have hm8 := emod_b at_ (n * 64) (by omega)
  refine s_op (o_rem (a := at_) (b := n * 64) (c := at_ % (n * 64)) rfl rfl (by omega) ((Int.tmod_eq_emod_of_nonneg (by first | exact Int.natCast_nonneg _ | omega))) ?_)
  refine s_op (o_assign (v := (.int .i64 (at_ % (n * 64)))) rfl ?_)
  refine s_nil ?_
  refine t_norm (hK4 _ _ ?_)
  refine wp_block ?_
  let I10 : Nat → (Nat → Value) → World → Prop := fun n__ r__ w__ => ∃ (a : Int) (z : Int) (va : Value) (ha : List Hp) (acc : List Pc), n__ = z.toNat ∧ Has E w__ [ha, [Hp.one ab (.cells #[(.pointer (some ⟨db, 0, none⟩)), (.int .i64 fr), (.int .i64 n)] 265 (0, 0))], R] ∧ (0 ≤ z ∧ z ≤ size) ∧ (0 ≤ a ∧ a < n * 64) ∧ (Own 269 3 va acc.length (acc.flatMap pcC) ha) ∧ ((acc.length : Int) + z ≤ size) ∧ (allP fr (n * 64) (at_ % (n * 64)) size = acc ++ allP fr (n * 64) a z) ∧ r__ 0 = (.pointer (some ⟨ab, 0, none⟩)) ∧ r__ 1 = (.int .i64 a) ∧ r__ 2 = (.int .i64 z) ∧ r__ 6 = (.slice none 0 0) ∧ r__ 7 = va
  have hH11 : Has E w7 [[], [Hp.one ab (.cells #[(.pointer (some ⟨db, 0, none⟩)), (.int .i64 fr), (.int .i64 n)] 265 (0, 0))], R] := (Has.nil ((hH6.front 1 rfl).front 1 rfl)).first 3 rfl
  refine c_loop I10 _ ⟨(at_ % (n * 64)), size, (.slice none 0 0), [], [], rfl, hH11, ⟨by omega, by omega⟩, ⟨Int.emod_nonneg _ (by omega), Int.emod_lt_of_pos _ (by omega)⟩, Own.nil 269 3, (by simp), rfl, rfl, rfl, rfl, rfl, rfl⟩ ?_
  rintro n_ r14 w12 ⟨a, z, va, ha, acc, rfl, hH13, hz, ha_, hoa, hct, hacc, e9_0, e9_1, e9_2, e9_6, e9_7⟩
  refine wp_seq_k fun K15 hK15 => ?_
  refine wp_seq_k fun K16 hK16 => ?_
  refine c_region ?_
  refine s_op (o_move (v := (.int .i64 z)) e9_2 ?_)
  refine s_op (o_gtr (a := z) (b := 0) rfl rfl ?_)
  refine s_nil ?_
  refine t_norm (hK16 _ _ ?_)
  refine c_cond rfl (fun h17 => ?_) (fun h17 => ?_)
  · -- 0 < z
    refine wp_skip ?_
    refine t_norm (hK15 _ _ ?_)
    refine wp_seq_k fun K18 hK18 => ?_
    refine wp_block ?_
    refine wp_seq_k fun K19 hK19 => ?_
    refine c_region ?_
    refine s_op (o_move (v := (.pointer (some ⟨ab, 0, none⟩))) e9_0 ?_)
    refine s_op (o_nilCheck rfl ?_)
    refine s_op (o_fieldAddr (k := 1) (fun _ => by kernel_rfl) rfl ?_)
    refine s_op (o_load1 (v := (.int .i64 fr)) Tryz.underlying3 rfl rfl hH13 (seg_sub 1 rfl) (CellsAt.one rfl) ?_)
    refine s_op (o_move (v := (.int .i64 a)) e9_1 ?_)
    refine s_op (o_quo (a := a) (b := 64) (c := a / 64) rfl rfl (by omega) (by rw [(Int.tdiv_eq_ediv_of_nonneg (by first | exact Int.natCast_nonneg _ | omega))]; exact w64 (by omega) (by omega)) ?_)
    refine s_op (o_add (a := fr) (b := a / 64) rfl rfl (w64 (by omega) (by omega)) ?_)
    refine s_op (o_move (v := (.int .i64 a)) e9_1 ?_)
    refine s_op (o_rem (a := a) (b := 64) (c := a % 64) rfl rfl (by omega) ((Int.tmod_eq_emod_of_nonneg (by first | exact Int.natCast_nonneg _ | omega))) ?_)
    refine s_op (o_sight (v := (.agg #[(.int .i64 (fr + (a / 64))), (.int .i64 (a % 64)), (.int .i64 0)])) (fun _ => by kernel_rfl) ?_)
    refine s_op (o_alloc (cs := #[(.int .i64 0), (.int .i64 0), (.int .i64 0)]) ti269 rfl hH13 fun b20 w21 hH22 => ?_)
    refine s_eff (o_storeN (vs := [(.int .i64 (fr + (a / 64))), (.int .i64 (a % 64)), (.int .i64 0)]) (c' := #[(.int .i64 (fr + (a / 64))), (.int .i64 (a % 64)), (.int .i64 0)]) ti269 rfl rfl rfl rfl (by intro u hu; simp only [List.mem_cons, List.not_mem_nil, or_false] at hu; rcases hu with rfl | rfl | rfl <;> first | rfl) (by simp) (by kernel_rfl) (hH22.front 0 rfl) fun w23 hH24 => ?_)
    refine s_nil ?_
    refine t_norm (hK19 _ _ ?_)
    refine wp_seq_k fun K25 hK25 => ?_
    refine c_region ?_
    refine s_op (o_fieldAddr (k := 1) (fun _ => by kernel_rfl) rfl ?_)
    refine s_op (o_load1 (v := (.int .i64 (a % 64))) Tryz.underlying3 rfl rfl hH24 (seg_sub 0 rfl) (CellsAt.one rfl) ?_)
    refine s_op (o_move (v := (.int .i64 z)) e9_2 ?_)
    refine s_op (o_add (a := a % 64) (b := z) rfl rfl (w64 (by omega) (by omega)) ?_)
    refine s_op (o_min (a := (a % 64) + z) (b := 64) rfl rfl ?_)
    refine s_op (o_fieldAddr (k := 2) (fun _ => by kernel_rfl) rfl ?_)
    refine s_eff (o_store1 (c' := #[(.int .i64 (fr + (a / 64))), (.int .i64 (a % 64)), (.int .i64 (min ((a % 64) + z) 64))]) ti3 rfl rfl rfl (by simp) rfl (hH24.front 0 rfl) fun w26 hH27 => ?_)
    refine s_nil ?_
    refine t_norm (hK25 _ _ ?_)
    refine wp_seq_k fun K28 hK28 => ?_
    refine c_region ?_
    refine s_op (o_move (v := va) e9_7 ?_)
    refine s_op (o_loadN (cs := [(.int .i64 (fr + (a / 64))), (.int .i64 (a % 64)), (.int .i64 (min ((a % 64) + z) 64))]) Tryz.underlying269 rfl ti269 rfl hH27 (seg_sub 0 rfl) (CellsAt.one rfl) ?_)
    refine s_op (o_buildSlice (ps := #[(0, (.agg #[(.int .i64 (fr + (a / 64))), (.int .i64 (a % 64)), (.int .i64 (min ((a % 64) + z) 64))]))]) (cells := #[(.int .i64 (fr + (a / 64))), (.int .i64 (a % 64)), (.int .i64 (min ((a % 64) + z) 64))]) Tryz.underlying266 ti269 (by decide) (parts1 rfl) (by kernel_rfl) hH27 fun b29 w30 hH31 => ?_)
    refine s_op (o_append Tryz.underlying266 ti269 rfl (by decide) rfl hoa rfl (sl_litF (f := pcC) (l := [(Pc.mk (fr + (a / 64)) (a % 64) (min ((a % 64) + z) 64))]) pcC_len rfl rfl (by simp)) (hH31.front 2 rfl) (seg_sub 0 rfl) (one_pcC _) (by simp; omega) (by simp; omega) fun v32 s33 w35 ho34 hH36 => ?_)
    have ho34 : Own 269 3 v32 (acc ++ [(Pc.mk (fr + (a / 64)) (a % 64) (min ((a % 64) + z) 64))]).length ((acc ++ [(Pc.mk (fr + (a / 64)) (a % 64) (min ((a % 64) + z) 64))]).flatMap pcC) s33 := ho34.appF
    refine s_op (o_assign (v := v32) rfl ?_)
    refine s_nil ?_
    refine t_norm (hK28 _ _ ?_)
    refine wp_seq_k fun K37 hK37 => ?_
    refine c_region ?_
    refine s_op (o_move (v := (.int .i64 a)) e9_1 ?_)
    refine s_op (o_fieldAddr (k := 2) (fun _ => by kernel_rfl) rfl ?_)
    refine s_op (o_load1 (v := (.int .i64 (min ((a % 64) + z) 64))) Tryz.underlying3 rfl rfl hH36 (seg_sub 2 rfl) (CellsAt.one rfl) ?_)
    refine s_op (o_fieldAddr (k := 1) (fun _ => by kernel_rfl) rfl ?_)
    refine s_op (o_load1 (v := (.int .i64 (a % 64))) Tryz.underlying3 rfl rfl hH36 (seg_sub 2 rfl) (CellsAt.one rfl) ?_)
    refine s_op (o_sub (a := min ((a % 64) + z) 64) (b := a % 64) rfl rfl (w64 (by omega) (by omega)) ?_)
    refine s_op (o_add (a := a) (b := (min ((a % 64) + z) 64) - (a % 64)) rfl rfl (w64 (by omega) (by omega)) ?_)
    refine s_op (o_assign (v := (.int .i64 (a + ((min ((a % 64) + z) 64) - (a % 64))))) rfl ?_)
    refine s_nil ?_
    refine t_norm (hK37 _ _ ?_)
    refine c_region ?_
    refine s_op (o_move (v := (.int .i64 z)) e9_2 ?_)
    refine s_op (o_fieldAddr (k := 2) (fun _ => by kernel_rfl) rfl ?_)
    refine s_op (o_load1 (v := (.int .i64 (min ((a % 64) + z) 64))) Tryz.underlying3 rfl rfl hH36 (seg_sub 2 rfl) (CellsAt.one rfl) ?_)
    refine s_op (o_fieldAddr (k := 1) (fun _ => by kernel_rfl) rfl ?_)
    refine s_op (o_load1 (v := (.int .i64 (a % 64))) Tryz.underlying3 rfl rfl hH36 (seg_sub 2 rfl) (CellsAt.one rfl) ?_)
    refine s_op (o_sub (a := min ((a % 64) + z) 64) (b := a % 64) rfl rfl (w64 (by omega) (by omega)) ?_)
    refine s_op (o_sub (a := z) (b := (min ((a % 64) + z) 64) - (a % 64)) rfl rfl (w64 (by omega) (by omega)) ?_)
    refine s_op (o_assign (v := (.int .i64 (z - ((min ((a % 64) + z) 64) - (a % 64))))) rfl ?_)
    refine s_nil ?_
    refine b_norm ?_
    refine t_norm (hK18 _ _ ?_)
    refine c_region ?_
    refine s_op (o_move (v := (.int .i64 (a + ((min ((a % 64) + z) 64) - (a % 64))))) rfl ?_)
    refine s_op (o_move (v := (.pointer (some ⟨ab, 0, none⟩))) e9_0 ?_)
    refine s_op (o_callf (vs := #[(.pointer (some ⟨ab, 0, none⟩))]) ca99 rfl (args1 rfl) (alen_c (hH36.front 3 rfl).all1 ⟨by omega, by omega⟩) ?_)
    rintro _ w40 ⟨rfl, hX38⟩
    refine ⟨_, rfl, ?_⟩
    have hH39 : Has E w40 [[Hp.one ab (.cells #[(.pointer (some ⟨db, 0, none⟩)), (.int .i64 fr), (.int .i64 n)] 265 (0, 0))], s33, [Hp.one b29 (.cells #[(.int .i64 (fr + (a / 64))), (.int .i64 (a % 64)), (.int .i64 (min ((a % 64) + z) 64))] 269 (0, 0))], [Hp.one b20 (.cells #[(.int .i64 (fr + (a / 64))), (.int .i64 (a % 64)), (.int .i64 (min ((a % 64) + z) 64))] 269 (0, 0))], R] := hX38.of_all1
    have hm41 := emod_b (a + ((min ((a % 64) + z) 64) - (a % 64))) (n * 64) (by omega)
    refine s_op (o_rem (a := a + ((min ((a % 64) + z) 64) - (a % 64))) (b := n * 64) (c := (a + ((min ((a % 64) + z) 64) - (a % 64))) % (n * 64)) rfl rfl (by omega) ((Int.tmod_eq_emod_of_nonneg (by first | exact Int.natCast_nonneg _ | omega))) ?_)
    refine s_op (o_assign (v := (.int .i64 ((a + ((min ((a % 64) + z) 64) - (a % 64))) % (n * 64)))) rfl ?_)
    refine s_nil ?_
    have hH42 : Has E w40 [s33, [Hp.one ab (.cells #[(.pointer (some ⟨db, 0, none⟩)), (.int .i64 fr), (.int .i64 n)] 265 (0, 0))], R] := (((hH39.front 4 rfl).front 1 rfl).front 2 rfl).first 3 rfl
    refine t_norm ⟨(z - ((min ((a % 64) + z) 64) - (a % 64))).toNat, _, rfl, ?_, ?_⟩
    · omega
    · exact ⟨((a + ((min ((a % 64) + z) 64) - (a % 64))) % (n * 64)), (z - ((min ((a % 64) + z) 64) - (a % 64))), v32, s33, (acc ++ [(Pc.mk (fr + (a / 64)) (a % 64) (min ((a % 64) + z) 64))]), rfl, hH42, (⟨by omega, by omega⟩), (⟨Int.emod_nonneg _ (by omega), Int.emod_lt_of_pos _ (by omega)⟩), (ho34), (by simp only [List.length_append, List.length_cons, List.length_nil]; omega), (by rw [hacc, allP_step (by omega) ha_.1 (by omega)]; exact (List.append_assoc acc [piece1 fr a z] (allP _ _ _ _)).symm), e9_0, rfl, rfl, e9_6, rfl⟩
  · -- not: 0 < z
    refine wp_exit ?_
    refine t_exit (t_exit (x_in (?_)))
    refine t_norm (hK3 _ _ ?_)
    refine wp_seq_k fun K43 hK43 => ?_
    refine c_region ?_
    refine s_op (o_move (v := va) e9_7 ?_)
    refine s_op (o_assign (v := va) rfl ?_)
    refine s_nil ?_
    refine t_norm (hK43 _ _ ?_)
    refine wp_ret ?_
    refine c_ret1 Tryz.results192  (v := va) rfl ?_
    have e_ : allP fr (n * 64) a z = [] := allP_none (by omega)
    rw [e_, List.append_nil] at hacc
    exact ⟨_, _, rfl, by rw [hacc]; exact hoa, hH13⟩
end Go.Q
namespace Go.Q
open Go.Proofs
set_option linter.unusedVariables false
set_option maxRecDepth 100000
attribute [local irreducible] wpList OK Code.wp
set_option maxHeartbeats 4000000 in
theorem dset_c {E w : World} {R sg : List Hp} {pb db ab : Nat} {d : Dv} {fr n : Int} (hH : Has E w [sg, [Hp.one pb (.cells #[(.bool d.p.off), (.bool d.p.armed), (.int .i64 d.p.left), (.int .i64 d.p.uses)] 145 (0, 0))], [Hp.one ab (.cells #[(.pointer (some ⟨db, 0, none⟩)), (.int .i64 fr), (.int .i64 n)] 265 (0, 0))], R]) (hd : DevAt pb sg db d.la d.lo) {k : Nat} (hf : Few d.p k) (hk : k ≤ 500000) (h4 : d.la.length ≤ 4096) (h64 : Full64 d.la) (hlk : LoOk d.lo d.la.length) (hfr : 0 ≤ fr) (hn : 1 ≤ n) (hfn : fr + n ≤ d.la.length) {at_ : Int} {v : Value} {data : List Bs} (hv : Sl R 1 v data.length (data.map sV)) (hdn : data.length ≤ 100000) (hdl : data.flatten.length ≤ 100000000) :
    Calls Tryz.prog 108 #[(.pointer (some ⟨ab, 0, none⟩)), (.int .i64 at_), v] w fun e w' => ∃ sg', e = .returned (.int .i64 (setA d fr n at_ data.flatten).1) ∧ DevAt pb sg' db (setA d fr n at_ data.flatten).2.la (setA d fr n at_ data.flatten).2.lo ∧ Has E w' [sg', [Hp.one pb (.cells #[(.bool ((setA d fr n at_ data.flatten).2).p.off), (.bool ((setA d fr n at_ data.flatten).2).p.armed), (.int .i64 ((setA d fr n at_ data.flatten).2).p.left), (.int .i64 ((setA d fr n at_ data.flatten).2).p.uses)] 145 (0, 0))], [Hp.one ab (.cells #[(.pointer (some ⟨db, 0, none⟩)), (.int .i64 fr), (.int .i64 n)] 265 (0, 0))], R] := by
  have hz0_ : (0 : Int) ≤ (data.flatten.length : Int) := by omega
  refine c_enter (args := [(.pointer (some ⟨ab, 0, none⟩)), (.int .i64 at_), v]) Tryz.func108 rfl Tryz.ntmps108 (by simp) ?_
  refine wp_seq_k fun K1 hK1 => ?_
  refine c_region ?_
  refine s_op (o_assign (v := (.int .i64 0)) rfl ?_)
  refine s_nil ?_
  refine t_norm (hK1 _ _ ?_)
  refine wp_seq_k fun K2 hK2 => ?_
  refine c_region ?_
  refine s_op (o_assign (v := (.int .i64 0)) rfl ?_)
  refine s_nil ?_
  refine t_norm (hK2 _ _ ?_)
  refine wp_seq_k fun K3 hK3 => ?_
  refine wp_seq_k fun K4 hK4 => ?_
  refine c_region ?_
  refine s_op (o_move (v := v) rfl ?_)
  refine s_op (o_lenS Tryz.underlying46 rfl hv ?_)
  refine s_op (o_move (v := (.int .i64 0)) rfl ?_)
  refine s_nil ?_
  refine t_norm (hK4 _ _ ?_)
  refine wp_block ?_
  let I6 : Nat → (Nat → Value) → World → Prop := fun n__ r__ w__ => ∃ (i : Nat) (z : Int), n__ = data.length - i ∧ Has E w__ [sg, [Hp.one pb (.cells #[(.bool d.p.off), (.bool d.p.armed), (.int .i64 d.p.left), (.int .i64 d.p.uses)] 145 (0, 0))], [Hp.one ab (.cells #[(.pointer (some ⟨db, 0, none⟩)), (.int .i64 fr), (.int .i64 n)] 265 (0, 0))], R] ∧ (i ≤ data.length) ∧ (z = ((data.take i).flatten.length : Int)) ∧ r__ 0 = (.pointer (some ⟨ab, 0, none⟩)) ∧ r__ 1 = (.int .i64 at_) ∧ r__ 2 = v ∧ r__ 6 = (.int .i64 0) ∧ r__ 7 = (.int .i64 z) ∧ r__ 17 = v ∧ r__ 18 = (.int .i64 ((data.length : Nat) : Int)) ∧ r__ 19 = (.int .i64 (i : Int))
  refine c_loop I6 _ ⟨0, 0, rfl, hH, Nat.zero_le _, (by simp), rfl, rfl, rfl, rfl, rfl, rfl, rfl, rfl⟩ ?_
  rintro n_ r9 w7 ⟨i, z, rfl, hH8, hi, hz, e5_0, e5_1, e5_2, e5_6, e5_7, e5_17, e5_18, e5_19⟩
  have hzl := flat_take_le data i
  refine wp_seq_k fun K10 hK10 => ?_
  refine c_region ?_
  refine s_op (o_lss (a := (i : Int)) (b := ((data.length : Nat) : Int)) e5_19 e5_18 ?_)
  refine s_nil ?_
  refine t_norm (hK10 _ _ ?_)
  refine wp_seq_k fun K11 hK11 => ?_
  refine c_cond rfl (fun h12 => ?_) (fun h12 => ?_)
  · -- (i : Int) < ((data.length : Nat) : Int)
    refine wp_skip ?_
    refine t_norm (hK11 _ _ ?_)
    refine wp_seq_k fun K13 hK13 => ?_
    refine wp_block ?_
    refine wp_seq_k fun K14 hK14 => ?_
    refine c_region ?_
    obtain ⟨x18, hx19⟩ : ∃ x_, data[((i : Int)).toNat]? = some x_ := get_some (by omega)
    refine s_op (o_index1 Tryz.underlying46 ti9 e5_17 hv e5_19 (by omega) hx19 fun b15 o16 hc17 => ?_)
    refine s_op (o_load1 (v := (S x18)) Tryz.underlying9 rfl rfl hH8 (seg_sub 3 rfl) hc17 ?_)
    refine s_op (o_assign (v := (S x18)) rfl ?_)
    refine s_nil ?_
    refine t_norm (hK14 _ _ ?_)
    refine c_region ?_
    refine s_op (o_move (v := (.int .i64 z)) e5_7 ?_)
    refine s_op (o_move (v := (S x18)) rfl ?_)
    refine s_op (o_slen Tryz.underlying9 rfl ?_)
    refine s_op (o_buildSlice (ps := #[(0, (.int .i64 z)), (1, (.int .i64 (x18.length : Int)))]) (cells := #[(.int .i64 z), (.int .i64 (x18.length : Int))]) Tryz.underlying47 ti3 (by decide) (parts2 rfl rfl) (by kernel_rfl) hH8 fun b20 w21 hH22 => ?_)
    have hxl_ := flat_take_le data (i + 1)
    rw [flatten_take_succ (show data[i]? = some _ from hx19), List.length_append] at hxl_
    refine s_op (o_callf (vs := #[(.slice (some ⟨b20, 0, none⟩) 2 2)]) ca198 rfl (args1 rfl) ((by have h_ := sum_c hH22.all (l := [z, (x18.length : Int)]) ((sl_lit (f := iV) (l := [z, (x18.length : Int)]) rfl rfl (by simp)).mono (seg_sub 0 rfl)); rwa [sum2 ⟨by omega, by omega⟩ ⟨by omega, by omega⟩] at h_)) ?_)
    rintro _ w25 ⟨rfl, hX23⟩
    refine ⟨_, rfl, ?_⟩
    have hH24 := hX23.of_all
    refine s_op (o_assign (v := (.int .i64 (z + (x18.length : Int)))) rfl ?_)
    refine s_nil ?_
    refine b_norm ?_
    refine t_norm (hK13 _ _ ?_)
    refine c_region ?_
    refine s_op (o_add (a := (i : Int)) (b := 1) e5_19 rfl (w64 (by omega) (by omega)) ?_)
    refine s_op (o_move (v := (.int .i64 ((i : Int) + 1))) rfl ?_)
    refine s_nil ?_
    have hH26 : Has E w25 [sg, [Hp.one pb (.cells #[(.bool d.p.off), (.bool d.p.armed), (.int .i64 d.p.left), (.int .i64 d.p.uses)] 145 (0, 0))], [Hp.one ab (.cells #[(.pointer (some ⟨db, 0, none⟩)), (.int .i64 fr), (.int .i64 n)] 265 (0, 0))], R] := ((((hH24.front 4 rfl).front 4 rfl).front 4 rfl).front 4 rfl).first 4 rfl
    refine t_norm ⟨data.length - (i + 1), _, rfl, ?_, ?_⟩
    · omega
    · exact ⟨(i + 1), (z + (x18.length : Int)), rfl, hH26, (by omega), (by rw [flatten_take_succ (show data[i]? = some _ from hx19), List.length_append]; omega), e5_0, e5_1, e5_2, e5_6, rfl, e5_17, e5_18, rfl⟩
  · -- not: (i : Int) < ((data.length : Nat) : Int)
    refine wp_exit ?_
    refine t_exit (t_exit (x_in (?_)))
    refine t_norm (hK3 _ _ ?_)
    refine wp_seq_k fun K27 hK27 => ?_
    refine wp_seq_k fun K28 hK28 => ?_
    refine c_region ?_
    refine s_op (o_move (v := (.pointer (some ⟨ab, 0, none⟩))) e5_0 ?_)
    refine s_op (o_move (v := (.int .i64 at_)) e5_1 ?_)
    refine s_op (o_move (v := (.int .i64 z)) e5_7 ?_)
    refine s_op (o_callf (vs := #[(.pointer (some ⟨ab, 0, none⟩)), (.int .i64 at_), (.int .i64 z)]) ca191 rfl (args3 rfl rfl rfl) (amay_c (hH8.front 2 rfl).all1 ⟨by omega, by omega⟩ at_ z) ?_)
    rintro _ w31 ⟨rfl, hX29⟩
    refine ⟨_, rfl, ?_⟩
    have hH30 : Has E w31 [[Hp.one ab (.cells #[(.pointer (some ⟨db, 0, none⟩)), (.int .i64 fr), (.int .i64 n)] 265 (0, 0))], sg, [Hp.one pb (.cells #[(.bool d.p.off), (.bool d.p.armed), (.int .i64 d.p.left), (.int .i64 d.p.uses)] 145 (0, 0))], R] := hX29.of_all1
    refine s_op (o_not2 (b := decide (0 ≤ at_ ∧ at_ ≤ 4611686018427387904 ∧ 0 ≤ z ∧ z ≤ n * 64)) (b' := decide (¬ (0 ≤ at_ ∧ at_ ≤ 4611686018427387904 ∧ 0 ≤ z ∧ z ≤ n * 64))) rfl not_dec ?_)
    refine s_nil ?_
    refine t_norm (hK28 _ _ ?_)
    refine c_cond rfl (fun h32 => ?_) (fun h32 => ?_)
    · -- ¬ (0 ≤ at_ ∧ at_ ≤ 4611686018427387904 ∧ 0 ≤ z ∧ z ≤ n * 64)
      have hzz : z = (data.flatten.length : Int) := by rw [hz, show i = data.length by omega, List.take_of_length_le (Nat.le_refl _)]
      refine wp_seq_k fun K33 hK33 => ?_
      refine c_region ?_
      refine s_op (o_assign (v := (.int .i64 1)) rfl ?_)
      refine s_nil ?_
      refine t_norm (hK33 _ _ ?_)
      refine wp_ret ?_
      refine t_ret (c_ret1 Tryz.results108  (v := (.int .i64 1)) rfl ?_)
      have hH34 : Has E w31 [sg, [Hp.one pb (.cells #[(.bool d.p.off), (.bool d.p.armed), (.int .i64 d.p.left), (.int .i64 d.p.uses)] 145 (0, 0))], [Hp.one ab (.cells #[(.pointer (some ⟨db, 0, none⟩)), (.int .i64 fr), (.int .i64 n)] 265 (0, 0))], R] := ((((hH30.front 3 rfl).front 1 rfl).front 3 rfl).front 3 rfl).first 4 rfl
      have hE_ : (setA d fr n at_ data.flatten) = (1, d) := if_neg (show ¬ mayA n at_ (data.flatten.length : Int) by rw [← hzz]; exact h32)
      exact ⟨_, by rw [hE_], by rw [hE_]; exact hd, by rw [hE_]; exact hH34⟩
    · -- not: ¬ (0 ≤ at_ ∧ at_ ≤ 4611686018427387904 ∧ 0 ≤ z ∧ z ≤ n * 64)
      have hzz : z = (data.flatten.length : Int) := by rw [hz, show i = data.length by omega, List.take_of_length_le (Nat.le_refl _)]
      obtain ⟨hat1, hat2, hsz1, hsz2⟩ := Classical.not_not.1 h32
      refine wp_skip ?_
      refine t_norm (hK27 _ _ ?_)
      refine wp_seq_k fun K35 hK35 => ?_
      refine wp_seq_k fun K36 hK36 => ?_
      refine c_region ?_
      refine s_op (o_move (v := (.pointer (some ⟨ab, 0, none⟩))) e5_0 ?_)
      refine s_op (o_nilCheck rfl ?_)
      refine s_op (o_fieldAddr (k := 0) (fun _ => by kernel_rfl) rfl ?_)
      refine s_op (o_load1 (v := (.pointer (some ⟨db, 0, none⟩))) Tryz.underlying25 rfl rfl hH30 (seg_sub 0 rfl) (CellsAt.one rfl) ?_)
      refine s_op (o_callf (vs := #[(.pointer (some ⟨db, 0, none⟩))]) ca186 rfl (args1 rfl) (don_d (p := d.p) (la := d.la) (lo := d.lo) ((hH30.front 2 rfl).front 2 rfl).all2 hd ) ?_)
      rintro _ w39 ⟨rfl, hX37⟩
      refine ⟨_, rfl, ?_⟩
      have hH38 : Has E w39 [sg, [Hp.one pb (.cells #[(.bool d.p.off), (.bool d.p.armed), (.int .i64 d.p.left), (.int .i64 d.p.uses)] 145 (0, 0))], [Hp.one ab (.cells #[(.pointer (some ⟨db, 0, none⟩)), (.int .i64 fr), (.int .i64 n)] 265 (0, 0))], R] := hX37.of_all2
      refine s_op (o_not rfl ?_)
      refine s_nil ?_
      refine t_norm (hK36 _ _ ?_)
      refine c_condb rfl (fun h40 => ?_) (fun h40 => ?_)
      · -- !(!d.p.off)
        have h40_n : (!d.p.off) = false := by first | simpa using h40 | exact Bool.of_not_eq_true (fun g_ => by rw [g_] at h40; cases h40)
        have h40_n_n : d.p.off = true := by first | simpa using h40_n | exact Bool.of_not_eq_false (fun g_ => by rw [g_] at h40_n; cases h40_n)
        refine wp_seq_k fun K41 hK41 => ?_
        refine c_region ?_
        refine s_op (o_assign (v := (.int .i64 6)) rfl ?_)
        refine s_nil ?_
        refine t_norm (hK41 _ _ ?_)
        refine wp_ret ?_
        refine t_ret (c_ret1 Tryz.results108  (v := (.int .i64 6)) rfl ?_)
        have hE_ : (setA d fr n at_ data.flatten) = (6, d) := (if_pos (show mayA n at_ (data.flatten.length : Int) by rw [← hzz]; exact Classical.not_not.1 h32)).trans (if_pos (by simpa using h40))
        exact ⟨_, by rw [hE_], by rw [hE_]; exact hd, by rw [hE_]; exact hH38⟩
      · -- not: !(!d.p.off)
        have h40_n : (!d.p.off) = true := by first | simpa using h40 | exact Bool.of_not_eq_false (fun g_ => by rw [g_] at h40; cases h40)
        have h40_n_n : d.p.off = false := by first | simpa using h40_n | exact Bool.of_not_eq_true (fun g_ => by rw [g_] at h40_n; cases h40_n)
        refine wp_skip ?_
        refine t_norm (hK35 _ _ ?_)
        refine wp_seq_k fun K42 hK42 => ?_
        refine c_region ?_
        refine s_op (o_move (v := v) e5_2 ?_)
        refine s_op (o_callf (vs := #[v, (S ([] : List UInt8))]) ca118 rfl (args2 rfl rfl) (join_c hH38.all (l := data) (hv.mono (seg_sub 3 rfl)) (by first | omega | simp) (by first | omega | (simp only [List.flatten_cons, List.flatten_nil, List.length_append, List.length_take, List.length_drop, List.length_nil]; omega))) ?_)
        rintro _ w45 ⟨rfl, hX43⟩
        refine ⟨_, rfl, ?_⟩
        have hH44 := hX43.of_all
        refine s_op (o_assign (v := (S data.flatten)) rfl ?_)
        refine s_nil ?_
        refine t_norm (hK42 _ _ ?_)
        refine wp_seq_k fun K46 hK46 => ?_
        refine wp_seq_k fun K47 hK47 => ?_
        refine c_region ?_
        refine s_op (o_move (v := (.pointer (some ⟨ab, 0, none⟩))) e5_0 ?_)
        refine s_op (o_move (v := (.int .i64 at_)) e5_1 ?_)
        refine s_op (o_move (v := (.int .i64 z)) e5_7 ?_)
        refine s_op (o_callf (vs := #[(.pointer (some ⟨ab, 0, none⟩)), (.int .i64 at_), (.int .i64 z)]) ca192 rfl (args3 rfl rfl rfl) (pieces_c (hH44.front 2 rfl).all1 ⟨by omega, by omega⟩ ⟨by omega, by omega⟩ (at_ := at_) (size := z) ⟨by omega, by omega⟩ ⟨by omega, by omega⟩) ?_)
        rintro _ w53 ⟨v48, s49, rfl, ho50, hX51⟩
        refine ⟨_, rfl, ?_⟩
        have hH52 : Has E w53 [s49, [Hp.one ab (.cells #[(.pointer (some ⟨db, 0, none⟩)), (.int .i64 fr), (.int .i64 n)] 265 (0, 0))], sg, [Hp.one pb (.cells #[(.bool d.p.off), (.bool d.p.armed), (.int .i64 d.p.left), (.int .i64 d.p.uses)] 145 (0, 0))], R] := hX51.of_all2
        refine s_op (o_lenS Tryz.underlying266 rfl ho50.sl ?_)
        refine s_op (o_move (v := (.int .i64 0)) rfl ?_)
        refine s_nil ?_
        refine t_norm (hK47 _ _ ?_)
        refine wp_block ?_
        have hpl := pieces_count (fr := fr) (L := n * 64) z.toNat (at_ % (n * 64)) z
        have hpk : ∀ p ∈ (allP fr (n * 64) (at_ % (n * 64)) z), PcOk fr n p := pieces_ok (fr := fr) (n := n) (by omega) z.toNat (at_ % (n * 64)) z (Int.emod_nonneg _ (by omega)) (Int.emod_lt_of_pos _ (by omega))
        have hpe : (allP fr (n * 64) (at_ % (n * 64)) z).length ≤ z.toNat := hpl
        have hpn : plen (allP fr (n * 64) (at_ % (n * 64)) z) = z := pieces_len (by omega) _ _ _ (Int.emod_nonneg _ (by omega)) (by omega) (Nat.le_refl _)
        have hon_ : d.p.off = false := by simpa using h40
        let I55 : Nat → (Nat → Value) → World → Prop := fun n__ r__ w__ => ∃ (j : Nat) (rest : Bs) (dc : Dv) (sgc : List Hp), n__ = (allP fr (n * 64) (at_ % (n * 64)) z).length - j ∧ Has E w__ [sgc, [Hp.one pb (.cells #[(.bool dc.p.off), (.bool dc.p.armed), (.int .i64 dc.p.left), (.int .i64 dc.p.uses)] 145 (0, 0))], s49, [Hp.one ab (.cells #[(.pointer (some ⟨db, 0, none⟩)), (.int .i64 fr), (.int .i64 n)] 265 (0, 0))], R] ∧ (j ≤ (allP fr (n * 64) (at_ % (n * 64)) z).length) ∧ (DevAt pb sgc db dc.la dc.lo) ∧ (dc.la = d.la) ∧ (LoOk dc.lo dc.la.length) ∧ (Few dc.p (k + j)) ∧ (dc.p.off = false) ∧ ((rest.length : Int) = plen ((allP fr (n * 64) (at_ % (n * 64)) z).drop j)) ∧ (asetD (allP fr (n * 64) (at_ % (n * 64)) z) d data.flatten = asetD ((allP fr (n * 64) (at_ % (n * 64)) z).drop j) dc rest) ∧ r__ 0 = (.pointer (some ⟨ab, 0, none⟩)) ∧ r__ 1 = (.int .i64 at_) ∧ r__ 2 = v ∧ r__ 7 = (.int .i64 z) ∧ r__ 10 = (S rest) ∧ r__ 17 = v ∧ r__ 18 = (.int .i64 ((data.length : Nat) : Int)) ∧ r__ 19 = (.int .i64 (i : Int)) ∧ r__ 20 = (.bool (decide ((i : Int) < ((data.length : Nat) : Int)))) ∧ r__ 33 = (.bool (decide (¬ (0 ≤ at_ ∧ at_ ≤ 4611686018427387904 ∧ 0 ≤ z ∧ z ≤ n * 64)))) ∧ r__ 39 = (.bool (!(!d.p.off))) ∧ r__ 45 = v48 ∧ r__ 46 = (.int .i64 (((allP fr (n * 64) (at_ % (n * 64)) z).length : Nat) : Int)) ∧ r__ 47 = (.int .i64 (j : Int))
        have hH56 : Has E w53 [sg, [Hp.one pb (.cells #[(.bool d.p.off), (.bool d.p.armed), (.int .i64 d.p.left), (.int .i64 d.p.uses)] 145 (0, 0))], s49, [Hp.one ab (.cells #[(.pointer (some ⟨db, 0, none⟩)), (.int .i64 fr), (.int .i64 n)] 265 (0, 0))], R] := (((((hH52.front 4 rfl).front 2 rfl).front 2 rfl).front 4 rfl).front 4 rfl).first 5 rfl
        refine c_loop I55 _ ⟨0, data.flatten, d, sg, rfl, hH56, Nat.zero_le _, hd, rfl, hlk, hf, hon_, (by rw [List.drop_zero, hpn]; omega), rfl, e5_0, e5_1, e5_2, e5_7, rfl, e5_17, e5_18, e5_19, rfl, rfl, rfl, rfl, rfl, rfl⟩ ?_
        rintro n_ r59 w57 ⟨j, rest, dc, sgc, rfl, hH58, hj, hdc, hla2, hlc2, hfc, hon2, hrest, hst, e54_0, e54_1, e54_2, e54_7, e54_10, e54_17, e54_18, e54_19, e54_20, e54_33, e54_39, e54_45, e54_46, e54_47⟩
        refine wp_seq_k fun K60 hK60 => ?_
        refine c_region ?_
        refine s_op (o_lss (a := (j : Int)) (b := (((allP fr (n * 64) (at_ % (n * 64)) z).length : Nat) : Int)) e54_47 e54_46 ?_)
        refine s_nil ?_
        refine t_norm (hK60 _ _ ?_)
        refine wp_seq_k fun K61 hK61 => ?_
        refine c_cond rfl (fun h62 => ?_) (fun h62 => ?_)
        · -- (j : Int) < (((allP fr (n * 64) (at_ % (n * 64)) z).length : Nat) : Int)
          refine wp_skip ?_
          refine t_norm (hK61 _ _ ?_)
          refine wp_seq_k fun K63 hK63 => ?_
          refine wp_block ?_
          refine wp_seq_k fun K64 hK64 => ?_
          refine c_region ?_
          obtain ⟨x68, hx69⟩ : ∃ x_, (allP fr (n * 64) (at_ % (n * 64)) z)[((j : Int)).toNat]? = some x_ := get_some (by omega)
          refine s_op (o_indexF pcC_len Tryz.underlying266 ti269 e54_45 ho50.sl rfl e54_47 (by omega) hx69 fun b65 o66 hc67 => ?_)
          refine s_op (o_loadN (cs := [(.int .i64 x68.sec), (.int .i64 x68.frm), (.int .i64 x68.upto)]) Tryz.underlying269 rfl ti269 rfl hH58 (seg_sub 2 rfl) hc67 ?_)
          refine s_op (o_alloc (cs := #[(.int .i64 0), (.int .i64 0), (.int .i64 0)]) ti269 rfl hH58 fun b70 w71 hH72 => ?_)
          refine s_eff (o_storeN (vs := [(.int .i64 x68.sec), (.int .i64 x68.frm), (.int .i64 x68.upto)]) (c' := #[(.int .i64 x68.sec), (.int .i64 x68.frm), (.int .i64 x68.upto)]) ti269 rfl rfl rfl rfl (by intro u hu; simp only [List.mem_cons, List.not_mem_nil, or_false] at hu; rcases hu with rfl | rfl | rfl <;> first | rfl) (by simp) (by kernel_rfl) (hH72.front 0 rfl) fun w73 hH74 => ?_)
          refine s_nil ?_
          refine t_norm (hK64 _ _ ?_)
          refine wp_seq_k fun K75 hK75 => ?_
          refine Rest.region mixed (by kernel_rfl) ?_
          have hH76 : Has E { w73 with drawn := w73.drawn + 1 } [[Hp.one b70 (.cells #[(.int .i64 x68.sec), (.int .i64 x68.frm), (.int .i64 x68.upto)] 269 (0, 0))], sgc, [Hp.one pb (.cells #[(.bool dc.p.off), (.bool dc.p.armed), (.int .i64 dc.p.left), (.int .i64 dc.p.uses)] 145 (0, 0))], s49, [Hp.one ab (.cells #[(.pointer (some ⟨db, 0, none⟩)), (.int .i64 fr), (.int .i64 n)] 265 (0, 0))], R] := Has0.drew hH74 _
          refine Rest.phaseA (fun w_ => Has E w_ [[Hp.one b70 (.cells #[(.int .i64 x68.sec), (.int .i64 x68.frm), (.int .i64 x68.upto)] 269 (0, 0))], [Hp.one ab (.cells #[(.pointer (some ⟨db, 0, none⟩)), (.int .i64 fr), (.int .i64 n)] 265 (0, 0))]]) 0 6 6 rfl (by decide) (by kernel_rfl) ?_
          refine a_op 0 rfl (by kernel_rfl) (fun w_ h_ => o_move (v := (.pointer (some ⟨ab, 0, none⟩))) e54_0 ⟨rfl, rfl⟩) ?_
          refine a_op 1 rfl (by kernel_rfl) (fun w_ h_ => o_nilCheck rfl ⟨rfl, rfl⟩) ?_
          refine a_op 2 rfl (by kernel_rfl) (fun w_ h_ => o_fieldAddr (k := 0) (fun _ => by kernel_rfl) rfl ⟨rfl, rfl⟩) ?_
          refine a_op 3 rfl (by kernel_rfl) (fun w_ h_ => o_load1 (v := (.pointer (some ⟨db, 0, none⟩))) Tryz.underlying25 rfl rfl h_ (seg_sub 1 rfl) (CellsAt.one rfl) ⟨rfl, rfl⟩) ?_
          refine a_op 4 rfl (by kernel_rfl) (fun w_ h_ => o_fieldAddr (k := 0) (fun _ => by kernel_rfl) rfl ⟨rfl, rfl⟩) ?_
          refine a_op 5 rfl (by kernel_rfl) (fun w_ h_ => o_load1 (v := (.int .i64 x68.sec)) Tryz.underlying3 rfl rfl h_ (seg_sub 0 rfl) (CellsAt.one rfl) ⟨rfl, rfl⟩) ?_
          have hH77 : Has E { w73 with drawn := w73.drawn + 1 } [[Hp.one b70 (.cells #[(.int .i64 x68.sec), (.int .i64 x68.frm), (.int .i64 x68.upto)] 269 (0, 0))], [Hp.one ab (.cells #[(.pointer (some ⟨db, 0, none⟩)), (.int .i64 fr), (.int .i64 n)] 265 (0, 0))]] := ((hH76.front 4 rfl).front 1 rfl).first 2 rfl
          refine a_done (by kernel_rfl) hH77 ?_
          refine r_op 6 rfl (by kernel_rfl) (o_callf (vs := #[(.pointer (some ⟨db, 0, none⟩)), (.int .i64 x68.sec)]) ca188 rfl (args2 rfl rfl) (read_d (p := dc.p) (la := dc.la) (lo := dc.lo) ((hH76.front 2 rfl).front 2 rfl).all2 hdc x68.sec) ?_)
          rintro _ w80 ⟨rfl, hX78⟩
          refine ⟨_, rfl, ?_⟩
          have hH79 : Has E w80 [sgc, [Hp.one pb (.cells #[(.bool dc.p.off), (.bool dc.p.armed), (.int .i64 dc.p.left), (.int .i64 dc.p.uses)] 145 (0, 0))], [Hp.one b70 (.cells #[(.int .i64 x68.sec), (.int .i64 x68.frm), (.int .i64 x68.upto)] 269 (0, 0))], s49, [Hp.one ab (.cells #[(.pointer (some ⟨db, 0, none⟩)), (.int .i64 fr), (.int .i64 n)] 265 (0, 0))], R] := hX78.of_all2
          refine r_op 7 rfl (by kernel_rfl) (o_move (v := (.tuple #[(S (readS dc.p dc.la dc.lo x68.sec)), (.int .i64 (readE dc.p dc.la x68.sec))])) rfl ?_)
          refine Rest.phaseA (fun w_ => Has E w_ []) 8 11 3 rfl (by decide) (by kernel_rfl) ?_
          refine a_op 8 rfl (by kernel_rfl) (fun w_ h_ => o_extract (v := (S (readS dc.p dc.la dc.lo x68.sec))) rfl rfl ⟨rfl, rfl⟩) ?_
          refine a_op 9 rfl (by kernel_rfl) (fun w_ h_ => o_extract (v := (.int .i64 (readE dc.p dc.la x68.sec))) rfl rfl ⟨rfl, rfl⟩) ?_
          refine a_op 10 rfl (by kernel_rfl) (fun w_ h_ => o_assign (v := (S (readS dc.p dc.la dc.lo x68.sec))) rfl ⟨rfl, rfl⟩) ?_
          have hH81 : Has E w80 [] := hH79.first 0 rfl
          refine a_done (by kernel_rfl) hH81 ?_
          refine r_op 11 rfl (by kernel_rfl) (o_assign (v := (.int .i64 (readE dc.p dc.la x68.sec))) rfl ?_)
          refine Rest.done (by kernel_rfl) ?_
          refine t_norm (hK75 _ _ ?_)
          refine wp_seq_k fun K82 hK82 => ?_
          refine wp_seq_k fun K83 hK83 => ?_
          refine c_region ?_
          refine s_op (o_move (v := (.int .i64 (readE dc.p dc.la x68.sec))) rfl ?_)
          refine s_op (o_neq (a := readE dc.p dc.la x68.sec) (b := 0) rfl rfl ?_)
          refine s_nil ?_
          refine t_norm (hK83 _ _ ?_)
          refine c_cond rfl (fun h84 => ?_) (fun h84 => ?_)
          · -- readE dc.p dc.la x68.sec ≠ 0
            obtain ⟨hq1, hq2, hq3, hq4, hq5⟩ := hpk x68 (List.mem_of_getElem? hx69)
            have hrd_ := rd_on hon2 (la := dc.la) (lo := dc.lo) (n := x68.sec) ⟨by omega, by rw [hla2]; omega⟩
            exact absurd hrd_.2 h84
          · -- not: readE dc.p dc.la x68.sec ≠ 0
            obtain ⟨hq1, hq2, hq3, hq4, hq5⟩ := hpk x68 (List.mem_of_getElem? hx69)
            have hrd_ := rd_on hon2 (la := dc.la) (lo := dc.lo) (n := x68.sec) ⟨by omega, by rw [hla2]; omega⟩
            have hrl_ : (readS dc.p dc.la dc.lo x68.sec).length = 64 := by rw [hrd_.1]; exact nowAt_len (by rw [hla2]; exact h64) hlc2 (by rw [hla2]; omega)
            obtain ⟨hpd_, hpz_⟩ := plen_drop hpk (show (allP fr (n * 64) (at_ % (n * 64)) z)[j]? = some _ from hx69)
            refine wp_skip ?_
            refine t_norm (hK82 _ _ ?_)
            refine wp_seq_k fun K85 hK85 => ?_
            refine c_region ?_
            refine s_op (o_fieldAddr (k := 2) (fun _ => by kernel_rfl) rfl ?_)
            refine s_op (o_load1 (v := (.int .i64 x68.upto)) Tryz.underlying3 rfl rfl hH79 (seg_sub 2 rfl) (CellsAt.one rfl) ?_)
            refine s_op (o_fieldAddr (k := 1) (fun _ => by kernel_rfl) rfl ?_)
            refine s_op (o_load1 (v := (.int .i64 x68.frm)) Tryz.underlying3 rfl rfl hH79 (seg_sub 2 rfl) (CellsAt.one rfl) ?_)
            refine s_op (o_sub (a := x68.upto) (b := x68.frm) rfl rfl (w64 (by omega) (by omega)) ?_)
            refine s_op (o_assign (v := (.int .i64 (x68.upto - x68.frm))) rfl ?_)
            refine s_nil ?_
            refine t_norm (hK85 _ _ ?_)
            refine wp_seq_k fun K86 hK86 => ?_
            refine wp_seq_k fun K87 hK87 => ?_
            refine Rest.region mixed (by kernel_rfl) ?_
            have hH88 : Has E { w80 with drawn := w80.drawn + 1 } [sgc, [Hp.one pb (.cells #[(.bool dc.p.off), (.bool dc.p.armed), (.int .i64 dc.p.left), (.int .i64 dc.p.uses)] 145 (0, 0))], [Hp.one b70 (.cells #[(.int .i64 x68.sec), (.int .i64 x68.frm), (.int .i64 x68.upto)] 269 (0, 0))], s49, [Hp.one ab (.cells #[(.pointer (some ⟨db, 0, none⟩)), (.int .i64 fr), (.int .i64 n)] 265 (0, 0))], R] := Has0.drew hH79 _
            refine Rest.phaseA (fun w_ => Has E w_ [[Hp.one b70 (.cells #[(.int .i64 x68.sec), (.int .i64 x68.frm), (.int .i64 x68.upto)] 269 (0, 0))], [Hp.one ab (.cells #[(.pointer (some ⟨db, 0, none⟩)), (.int .i64 fr), (.int .i64 n)] 265 (0, 0))]]) 0 18 18 rfl (by decide) (by kernel_rfl) ?_
            refine a_op 0 rfl (by kernel_rfl) (fun w_ h_ => o_move (v := (.pointer (some ⟨ab, 0, none⟩))) e54_0 ⟨rfl, rfl⟩) ?_
            refine a_op 1 rfl (by kernel_rfl) (fun w_ h_ => o_nilCheck rfl ⟨rfl, rfl⟩) ?_
            refine a_op 2 rfl (by kernel_rfl) (fun w_ h_ => o_fieldAddr (k := 0) (fun _ => by kernel_rfl) rfl ⟨rfl, rfl⟩) ?_
            refine a_op 3 rfl (by kernel_rfl) (fun w_ h_ => o_load1 (v := (.pointer (some ⟨db, 0, none⟩))) Tryz.underlying25 rfl rfl h_ (seg_sub 1 rfl) (CellsAt.one rfl) ⟨rfl, rfl⟩) ?_
            refine a_op 4 rfl (by kernel_rfl) (fun w_ h_ => o_fieldAddr (k := 0) (fun _ => by kernel_rfl) rfl ⟨rfl, rfl⟩) ?_
            refine a_op 5 rfl (by kernel_rfl) (fun w_ h_ => o_load1 (v := (.int .i64 x68.sec)) Tryz.underlying3 rfl rfl h_ (seg_sub 0 rfl) (CellsAt.one rfl) ⟨rfl, rfl⟩) ?_
            refine a_op 6 rfl (by kernel_rfl) (fun w_ h_ => o_move (v := (S (readS dc.p dc.la dc.lo x68.sec))) rfl ⟨rfl, rfl⟩) ?_
            refine a_op 7 rfl (by kernel_rfl) (fun w_ h_ => o_fieldAddr (k := 1) (fun _ => by kernel_rfl) rfl ⟨rfl, rfl⟩) ?_
            refine a_op 8 rfl (by kernel_rfl) (fun w_ h_ => o_load1 (v := (.int .i64 x68.frm)) Tryz.underlying3 rfl rfl h_ (seg_sub 0 rfl) (CellsAt.one rfl) ⟨rfl, rfl⟩) ?_
            refine a_op 9 rfl (by kernel_rfl) (fun w_ h_ => o_ssl_h Tryz.underlying9 rfl rfl (by omega) (by omega) ⟨rfl, rfl⟩) ?_
            refine a_op 10 rfl (by kernel_rfl) (fun w_ h_ => o_move (v := (S rest)) e54_10 ⟨rfl, rfl⟩) ?_
            refine a_op 11 rfl (by kernel_rfl) (fun w_ h_ => o_move (v := (.int .i64 (x68.upto - x68.frm))) rfl ⟨rfl, rfl⟩) ?_
            refine a_op 12 rfl (by kernel_rfl) (fun w_ h_ => o_ssl_h Tryz.underlying9 rfl rfl (by omega) (by omega) ⟨rfl, rfl⟩) ?_
            refine a_op 13 rfl (by kernel_rfl) (fun w_ h_ => o_move (v := (S (readS dc.p dc.la dc.lo x68.sec))) rfl ⟨rfl, rfl⟩) ?_
            refine a_op 14 rfl (by kernel_rfl) (fun w_ h_ => o_fieldAddr (k := 2) (fun _ => by kernel_rfl) rfl ⟨rfl, rfl⟩) ?_
            refine a_op 15 rfl (by kernel_rfl) (fun w_ h_ => o_load1 (v := (.int .i64 x68.upto)) Tryz.underlying3 rfl rfl h_ (seg_sub 0 rfl) (CellsAt.one rfl) ⟨rfl, rfl⟩) ?_
            refine a_op 16 rfl (by kernel_rfl) (fun w_ h_ => o_ssl_l Tryz.underlying9 rfl rfl (by omega) (by omega) ⟨rfl, rfl⟩) ?_
            have hH89 : Has E { w80 with drawn := w80.drawn + 1 } [[Hp.one b70 (.cells #[(.int .i64 x68.sec), (.int .i64 x68.frm), (.int .i64 x68.upto)] 269 (0, 0))], [Hp.one ab (.cells #[(.pointer (some ⟨db, 0, none⟩)), (.int .i64 fr), (.int .i64 n)] 265 (0, 0))]] := ((hH88.front 4 rfl).front 3 rfl).first 2 rfl
            refine a_w 17 rfl (by kernel_rfl) hH89 (o_buildSlice (ps := #[(0, (S ((readS dc.p dc.la dc.lo x68.sec).take (x68.frm).toNat))), (1, (S (rest.take (x68.upto - x68.frm).toNat))), (2, (S ((readS dc.p dc.la dc.lo x68.sec).drop (x68.upto).toNat)))]) (cells := #[(S ((readS dc.p dc.la dc.lo x68.sec).take (x68.frm).toNat)), (S (rest.take (x68.upto - x68.frm).toNat)), (S ((readS dc.p dc.la dc.lo x68.sec).drop (x68.upto).toNat))]) Tryz.underlying46 ti9 (by decide) (parts3 rfl rfl rfl) (by kernel_rfl) hH88 fun b90 w91 hH92 => ?_)
            have hH93 : Has E w91 [[Hp.one b70 (.cells #[(.int .i64 x68.sec), (.int .i64 x68.frm), (.int .i64 x68.upto)] 269 (0, 0))], [Hp.one ab (.cells #[(.pointer (some ⟨db, 0, none⟩)), (.int .i64 fr), (.int .i64 n)] 265 (0, 0))]] := ((hH92.front 5 rfl).front 4 rfl).first 2 rfl
            refine a_done (by kernel_rfl) hH93 ?_
            have hfl_ : ([(readS dc.p dc.la dc.lo x68.sec).take (x68.frm).toNat, rest.take (x68.upto - x68.frm).toNat, (readS dc.p dc.la dc.lo x68.sec).drop (x68.upto).toNat] : List Bs).flatten = (putA1 dc.la dc.lo x68 rest) := by rw [hrd_.1]; simp [putA1]
            have htl_ : (putA1 dc.la dc.lo x68 rest).length = 64 := put1_len (fr := fr) (n := n) ⟨hq1, hq2, hq3, hq4, hq5⟩ (by rw [← hrd_.1]; exact hrl_) (by omega)
            refine r_op 18 rfl (by kernel_rfl) (o_callf (vs := #[(.pointer (some ⟨db, 0, none⟩)), (.int .i64 x68.sec), (.slice (some ⟨b90, 0, none⟩) 3 3)]) ca122 rfl (args3 rfl rfl rfl) (dv_wr (d := dc) ((hH92.front 2 rfl).front 2 rfl).all2 hdc (hfc.ok (by omega)) (by rw [hla2]; exact h4) x68.sec (l := [(readS dc.p dc.la dc.lo x68.sec).take (x68.frm).toNat, rest.take (x68.upto - x68.frm).toNat, (readS dc.p dc.la dc.lo x68.sec).drop (x68.upto).toNat]) ((sl_lit (f := sV) (l := [(readS dc.p dc.la dc.lo x68.sec).take (x68.frm).toNat, rest.take (x68.upto - x68.frm).toNat, (readS dc.p dc.la dc.lo x68.sec).drop (x68.upto).toNat]) rfl rfl (by simp)).mono (seg_sub 0 rfl)) (s := (putA1 dc.la dc.lo x68 rest)) hfl_ (by simp) (by omega)) ?_)
            rintro _ w98 ⟨sg94, rfl, hd95, hX96⟩
            refine ⟨_, rfl, ?_⟩
            have hH97 : Has E w98 [sg94, [Hp.one pb (.cells #[(.bool (dc.wr x68.sec (putA1 dc.la dc.lo x68 rest)).p.off), (.bool (dc.wr x68.sec (putA1 dc.la dc.lo x68 rest)).p.armed), (.int .i64 (dc.wr x68.sec (putA1 dc.la dc.lo x68 rest)).p.left), (.int .i64 (dc.wr x68.sec (putA1 dc.la dc.lo x68 rest)).p.uses)] 145 (0, 0))], [Hp.one b90 (.cells #[(S ((readS dc.p dc.la dc.lo x68.sec).take (x68.frm).toNat)), (S (rest.take (x68.upto - x68.frm).toNat)), (S ((readS dc.p dc.la dc.lo x68.sec).drop (x68.upto).toNat))] 9 (0, 0))], [Hp.one b70 (.cells #[(.int .i64 x68.sec), (.int .i64 x68.frm), (.int .i64 x68.upto)] 269 (0, 0))], s49, [Hp.one ab (.cells #[(.pointer (some ⟨db, 0, none⟩)), (.int .i64 fr), (.int .i64 n)] 265 (0, 0))], R] := hX96.of_all2
            refine r_op 19 rfl (by kernel_rfl) (o_assign (v := (.int .i64 (dc.wrE x68.sec (putA1 dc.la dc.lo x68 rest)))) rfl ?_)
            refine Rest.done (by kernel_rfl) ?_
            refine t_norm (hK87 _ _ ?_)
            refine wp_seq_k fun K99 hK99 => ?_
            refine c_region ?_
            refine s_op (o_move (v := (.int .i64 (dc.wrE x68.sec (putA1 dc.la dc.lo x68 rest)))) rfl ?_)
            refine s_op (o_neq (a := dc.wrE x68.sec (putA1 dc.la dc.lo x68 rest)) (b := 0) rfl rfl ?_)
            refine s_nil ?_
            refine t_norm (hK99 _ _ ?_)
            refine c_cond rfl (fun h100 => ?_) (fun h100 => ?_)
            · -- dc.wrE x68.sec (putA1 dc.la dc.lo x68 rest) ≠ 0
              refine wp_seq_k fun K101 hK101 => ?_
              refine c_region ?_
              refine s_op (o_move (v := (.int .i64 (dc.wrE x68.sec (putA1 dc.la dc.lo x68 rest)))) rfl ?_)
              refine s_op (o_assign (v := (.int .i64 (dc.wrE x68.sec (putA1 dc.la dc.lo x68 rest)))) rfl ?_)
              refine s_nil ?_
              refine t_norm (hK101 _ _ ?_)
              refine wp_ret ?_
              refine t_ret (b_ret (t_ret (t_ret (b_ret (t_ret (c_ret1 Tryz.results108  (v := (.int .i64 (dc.wrE x68.sec (putA1 dc.la dc.lo x68 rest)))) rfl ?_))))))
              have hR_ := aset_stop (show (allP fr (n * 64) (at_ % (n * 64)) z)[j]? = some _ from hx69) hst h100
              have hH102 : Has E w98 [sg94, [Hp.one pb (.cells #[(.bool (dc.wr x68.sec (putA1 dc.la dc.lo x68 rest)).p.off), (.bool (dc.wr x68.sec (putA1 dc.la dc.lo x68 rest)).p.armed), (.int .i64 (dc.wr x68.sec (putA1 dc.la dc.lo x68 rest)).p.left), (.int .i64 (dc.wr x68.sec (putA1 dc.la dc.lo x68 rest)).p.uses)] 145 (0, 0))], [Hp.one ab (.cells #[(.pointer (some ⟨db, 0, none⟩)), (.int .i64 fr), (.int .i64 n)] 265 (0, 0))], R] := ((((hH97.front 6 rfl).front 6 rfl).front 3 rfl).front 3 rfl).first 4 rfl
              have hE_ : (setA d fr n at_ data.flatten) = (dc.wrE x68.sec (putA1 dc.la dc.lo x68 rest), (dc.wr x68.sec (putA1 dc.la dc.lo x68 rest))) := (if_pos (show mayA n at_ (data.flatten.length : Int) by rw [← hzz]; exact Classical.not_not.1 h32)).trans ((if_neg (by rw [hon_]; decide)).trans (by show asetD (allP fr (n * 64) (at_ % (n * 64)) (data.flatten.length : Int)) d data.flatten = _; rw [← hzz]; exact hR_))
              exact ⟨_, by rw [hE_], by rw [hE_]; exact hd95, by rw [hE_]; exact hH102⟩
            · -- not: dc.wrE x68.sec (putA1 dc.la dc.lo x68 rest) ≠ 0
              have hon3_ := wr_zero_on (Classical.not_not.1 h100)
              refine wp_skip ?_
              refine t_norm (hK86 _ _ ?_)
              refine c_region ?_
              refine s_op (o_move (v := (S rest)) e54_10 ?_)
              refine s_op (o_move (v := (.int .i64 (x68.upto - x68.frm))) rfl ?_)
              refine s_op (o_ssl_l Tryz.underlying9 rfl rfl (by omega) (by omega) ?_)
              refine s_op (o_assign (v := (S (rest.drop (x68.upto - x68.frm).toNat))) rfl ?_)
              refine s_nil ?_
              refine b_norm ?_
              refine t_norm (hK63 _ _ ?_)
              refine c_region ?_
              refine s_op (o_add (a := (j : Int)) (b := 1) e54_47 rfl (w64 (by omega) (by omega)) ?_)
              refine s_op (o_move (v := (.int .i64 ((j : Int) + 1))) rfl ?_)
              refine s_nil ?_
              have hH103 : Has E w98 [sg94, [Hp.one pb (.cells #[(.bool (dc.wr x68.sec (putA1 dc.la dc.lo x68 rest)).p.off), (.bool (dc.wr x68.sec (putA1 dc.la dc.lo x68 rest)).p.armed), (.int .i64 (dc.wr x68.sec (putA1 dc.la dc.lo x68 rest)).p.left), (.int .i64 (dc.wr x68.sec (putA1 dc.la dc.lo x68 rest)).p.uses)] 145 (0, 0))], s49, [Hp.one ab (.cells #[(.pointer (some ⟨db, 0, none⟩)), (.int .i64 fr), (.int .i64 n)] 265 (0, 0))], R] := (((((hH97.front 6 rfl).front 6 rfl).front 6 rfl).front 4 rfl).front 4 rfl).first 5 rfl
              refine t_norm ⟨(allP fr (n * 64) (at_ % (n * 64)) z).length - (j + 1), _, rfl, ?_, ?_⟩
              · omega
              · exact ⟨(j + 1), (rest.drop (x68.upto - x68.frm).toNat), (dc.wr x68.sec (putA1 dc.la dc.lo x68 rest)), sg94, rfl, hH103, (by omega), (hd95), (hla2), (hlc2.write _ _ _), (hfc.use), (hon3_), (by rw [List.length_drop]; omega), (aset_go (show (allP fr (n * 64) (at_ % (n * 64)) z)[j]? = some _ from hx69) hst (Classical.not_not.1 h100)), e54_0, e54_1, e54_2, e54_7, rfl, e54_17, e54_18, e54_19, e54_20, e54_33, e54_39, e54_45, e54_46, rfl⟩
        · -- not: (j : Int) < (((allP fr (n * 64) (at_ % (n * 64)) z).length : Nat) : Int)
          refine wp_exit ?_
          refine t_exit (t_exit (x_in (?_)))
          refine t_norm (hK46 _ _ ?_)
          refine wp_seq_k fun K104 hK104 => ?_
          refine c_region ?_
          refine s_op (o_assign (v := (.int .i64 0)) rfl ?_)
          refine s_nil ?_
          refine t_norm (hK104 _ _ ?_)
          refine wp_ret ?_
          refine c_ret1 Tryz.results108  (v := (.int .i64 0)) rfl ?_
          have hR_ := aset_end hst (by omega)
          have hH105 : Has E w57 [sgc, [Hp.one pb (.cells #[(.bool dc.p.off), (.bool dc.p.armed), (.int .i64 dc.p.left), (.int .i64 dc.p.uses)] 145 (0, 0))], [Hp.one ab (.cells #[(.pointer (some ⟨db, 0, none⟩)), (.int .i64 fr), (.int .i64 n)] 265 (0, 0))], R] := ((((hH58.front 4 rfl).front 4 rfl).front 3 rfl).front 3 rfl).first 4 rfl
          have hE_ : (setA d fr n at_ data.flatten) = (0, dc) := (if_pos (show mayA n at_ (data.flatten.length : Int) by rw [← hzz]; exact Classical.not_not.1 h32)).trans ((if_neg (by rw [hon_]; decide)).trans (by show asetD (allP fr (n * 64) (at_ % (n * 64)) (data.flatten.length : Int)) d data.flatten = _; rw [← hzz]; exact hR_))
          exact ⟨_, by rw [hE_], by rw [hE_]; exact hdc, by rw [hE_]; exact hH105⟩
end Go.Q
namespace Go.Q
open Go.Proofs
set_option linter.unusedVariables false
set_option maxRecDepth 100000
attribute [local irreducible] wpList OK Code.wp
set_option maxHeartbeats 4000000 in
theorem within_c {E w : World} {R : List Hp} (hH : Has E w [R]) (n m : Int) :
    Calls Tryz.prog 277 #[(.int .i64 n), (.int .i64 m)] w fun e w' => e = .returned (.bool (decide (0 ≤ n ∧ n ≤ m))) ∧ Has E w' [R] := by
  refine c_enter (args := [(.int .i64 n), (.int .i64 m)]) Tryz.func277 rfl Tryz.ntmps277 (by simp) ?_
  refine wp_seq_k fun K1 hK1 => ?_
  refine c_region ?_
  refine s_op (o_assign (v := (.bool false)) rfl ?_)
  refine s_nil ?_
  refine t_norm (hK1 _ _ ?_)
  refine wp_seq_k fun K2 hK2 => ?_
  refine c_region ?_
  refine s_op (o_move (v := (.int .i64 n)) rfl ?_)
  refine s_op (o_geq (a := n) (b := 0) rfl rfl ?_)
  refine s_op (o_move (v := (.bool (decide (0 ≤ n)))) rfl ?_)
  by_cases h3 : 0 ≤ n
  · -- 0 ≤ n
    refine s_on 7 rfl (congrArg Value.bool (decide_eq_true h3)) (o_move (v := (.int .i64 n)) rfl ?_)
    refine s_on 7 rfl (congrArg Value.bool (decide_eq_true h3)) (o_move (v := (.int .i64 m)) rfl ?_)
    refine s_on 7 rfl (congrArg Value.bool (decide_eq_true h3)) (o_leq (a := n) (b := m) rfl rfl ?_)
    refine s_op (o_pick_t (u := (.bool (decide (n ≤ m)))) ((rfl : _ = _).trans (congrArg Value.bool (decide_eq_true h3))) rfl ?_)
    refine s_op (o_assign (v := (.bool (decide (n ≤ m)))) rfl ?_)
    refine s_nil ?_
    refine t_norm (hK2 _ _ ?_)
    refine wp_ret ?_
    refine c_ret1 Tryz.results277  (v := (.bool (decide (n ≤ m)))) rfl ?_
    exact ⟨congrArg (fun b => Ending.returned (.bool b)) (decide_eq_decide.2 (by omega)), hH⟩
  · -- not: 0 ≤ n
    refine s_off (b' := false) 7 rfl (congrArg Value.bool (decide_eq_false h3)) rfl ?_
    refine s_off (b' := false) 7 rfl (congrArg Value.bool (decide_eq_false h3)) rfl ?_
    refine s_off (b' := false) 7 rfl (congrArg Value.bool (decide_eq_false h3)) rfl ?_
    refine s_op (o_pick_f (u := (.bool false)) ((rfl : _ = _).trans (congrArg Value.bool (decide_eq_false h3))) rfl ?_)
    refine s_op (o_assign (v := (.bool false)) rfl ?_)
    refine s_nil ?_
    refine t_norm (hK2 _ _ ?_)
    refine wp_ret ?_
    refine c_ret1 Tryz.results277  (v := (.bool false)) rfl ?_
    exact ⟨congrArg (fun b => Ending.returned (.bool b)) ((decide_eq_false (by omega)).symm), hH⟩
set_option maxHeartbeats 4000000 in
theorem right_c {E w : World} {R : List Hp} (hH : Has E w [R]) (f : Fr) (hfl : f.data.length ≤ 9223372036854775807) :
    Calls Tryz.prog 197 #[(.agg #[(.int .i64 f.ep), (.int .i64 f.pl), (.int .i64 f.gsn), (S f.data)])] w fun e w' => e = .returned (.bool (rightS f)) ∧ Has E w' [R] := by
  refine c_enter (args := [(.agg #[(.int .i64 f.ep), (.int .i64 f.pl), (.int .i64 f.gsn), (S f.data)])]) Tryz.func197 rfl Tryz.ntmps197 (by simp) ?_
  refine wp_seq_k fun K1 hK1 => ?_
  refine c_region ?_
  refine s_op (o_box (cs := #[(.int .i64 f.ep), (.int .i64 f.pl), (.int .i64 f.gsn), (S f.data)]) rfl rfl hH fun b2 w3 hH4 => ?_)
  refine s_op (o_assign (v := (.bool false)) rfl ?_)
  refine s_nil ?_
  refine t_norm (hK1 _ _ ?_)
  refine wp_seq_k fun K5 hK5 => ?_
  refine c_region ?_
  refine s_op (o_fieldAddr (k := 0) (fun _ => by kernel_rfl) rfl ?_)
  refine s_op (o_load1 (v := (.int .i64 f.ep)) Tryz.underlying3 rfl rfl hH4 (seg_sub 0 rfl) (CellsAt.one rfl) ?_)
  refine s_op (o_callf (vs := #[(.int .i64 f.ep), (.int .i64 2147483647)]) ca277 rfl (args2 rfl rfl) (within_c hH4.all f.ep 2147483647) ?_)
  rintro _ w8 ⟨rfl, hX6⟩
  refine ⟨_, rfl, ?_⟩
  have hH7 := hX6.of_all
  refine s_op (o_move (v := (.bool (decide (0 ≤ f.ep ∧ f.ep ≤ 2147483647)))) rfl ?_)
  by_cases h9 : 0 ≤ f.ep ∧ f.ep ≤ 2147483647
  · -- 0 ≤ f.ep ∧ f.ep ≤ 2147483647
    refine s_on 6 rfl (congrArg Value.bool (decide_eq_true h9)) (o_fieldAddr (k := 1) (fun _ => by kernel_rfl) rfl ?_)
    refine s_on 6 rfl (congrArg Value.bool (decide_eq_true h9)) (o_load1 (v := (.int .i64 f.pl)) Tryz.underlying3 rfl rfl hH7 (seg_sub 0 rfl) (CellsAt.one rfl) ?_)
    refine s_on 6 rfl (congrArg Value.bool (decide_eq_true h9)) (o_callf (vs := #[(.int .i64 f.pl), (.int .i64 4611686018427387903)]) ca277 rfl (args2 rfl rfl) (within_c hH7.all f.pl 4611686018427387903) ?_)
    rintro _ w12 ⟨rfl, hX10⟩
    refine ⟨_, rfl, ?_⟩
    have hH11 := hX10.of_all
    refine s_op (o_pick_t (u := (.bool (decide (0 ≤ f.pl ∧ f.pl ≤ 4611686018427387903)))) ((rfl : _ = _).trans (congrArg Value.bool (decide_eq_true h9))) rfl ?_)
    refine s_op (o_move (v := (.bool (decide (0 ≤ f.pl ∧ f.pl ≤ 4611686018427387903)))) rfl ?_)
    by_cases h13 : 0 ≤ f.pl ∧ f.pl ≤ 4611686018427387903
    · -- 0 ≤ f.pl ∧ f.pl ≤ 4611686018427387903
      refine s_on 11 rfl (congrArg Value.bool (decide_eq_true h13)) (o_fieldAddr (k := 2) (fun _ => by kernel_rfl) rfl ?_)
      refine s_on 11 rfl (congrArg Value.bool (decide_eq_true h13)) (o_load1 (v := (.int .i64 f.gsn)) Tryz.underlying3 rfl rfl hH11 (seg_sub 0 rfl) (CellsAt.one rfl) ?_)
      refine s_on 11 rfl (congrArg Value.bool (decide_eq_true h13)) (o_callf (vs := #[(.int .i64 f.gsn), (.int .i64 4611686018427387903)]) ca277 rfl (args2 rfl rfl) (within_c hH11.all f.gsn 4611686018427387903) ?_)
      rintro _ w16 ⟨rfl, hX14⟩
      refine ⟨_, rfl, ?_⟩
      have hH15 := hX14.of_all
      refine s_op (o_pick_t (u := (.bool (decide (0 ≤ f.gsn ∧ f.gsn ≤ 4611686018427387903)))) ((rfl : _ = _).trans (congrArg Value.bool (decide_eq_true h13))) rfl ?_)
      refine s_op (o_move (v := (.bool (decide (0 ≤ f.gsn ∧ f.gsn ≤ 4611686018427387903)))) rfl ?_)
      by_cases h17 : 0 ≤ f.gsn ∧ f.gsn ≤ 4611686018427387903
      · -- 0 ≤ f.gsn ∧ f.gsn ≤ 4611686018427387903
        refine s_on 16 rfl (congrArg Value.bool (decide_eq_true h17)) (o_fieldAddr (k := 3) (fun _ => by kernel_rfl) rfl ?_)
        refine s_on 16 rfl (congrArg Value.bool (decide_eq_true h17)) (o_load1 (v := (S f.data)) Tryz.underlying9 rfl rfl hH15 (seg_sub 0 rfl) (CellsAt.one rfl) ?_)
        refine s_on 16 rfl (congrArg Value.bool (decide_eq_true h17)) (o_slen Tryz.underlying9 rfl ?_)
        refine s_on 16 rfl (congrArg Value.bool (decide_eq_true h17)) (o_leq (a := (f.data.length : Int)) (b := 200) rfl rfl ?_)
        refine s_op (o_pick_t (u := (.bool (decide ((f.data.length : Int) ≤ 200)))) ((rfl : _ = _).trans (congrArg Value.bool (decide_eq_true h17))) rfl ?_)
        refine s_op (o_assign (v := (.bool (decide ((f.data.length : Int) ≤ 200)))) rfl ?_)
        refine s_nil ?_
        refine t_norm (hK5 _ _ ?_)
        refine wp_ret ?_
        refine c_ret1 Tryz.results197  (v := (.bool (decide ((f.data.length : Int) ≤ 200)))) rfl ?_
        have hH18 : Has E w16 [R] := (hH15.front 1 rfl).first 1 rfl
        exact ⟨congrArg (fun b => Ending.returned (.bool b)) (decide_eq_decide.2 (by omega)), hH18⟩
      · -- not: 0 ≤ f.gsn ∧ f.gsn ≤ 4611686018427387903
        refine s_off (b' := false) 16 rfl (congrArg Value.bool (decide_eq_false h17)) rfl ?_
        refine s_off (b' := false) 16 rfl (congrArg Value.bool (decide_eq_false h17)) rfl ?_
        refine s_off (b' := false) 16 rfl (congrArg Value.bool (decide_eq_false h17)) rfl ?_
        refine s_off (b' := false) 16 rfl (congrArg Value.bool (decide_eq_false h17)) rfl ?_
        refine s_op (o_pick_f (u := (.bool false)) ((rfl : _ = _).trans (congrArg Value.bool (decide_eq_false h17))) rfl ?_)
        refine s_op (o_assign (v := (.bool false)) rfl ?_)
        refine s_nil ?_
        refine t_norm (hK5 _ _ ?_)
        refine wp_ret ?_
        refine c_ret1 Tryz.results197  (v := (.bool false)) rfl ?_
        have hH19 : Has E w16 [R] := (hH15.front 1 rfl).first 1 rfl
        exact ⟨congrArg (fun b => Ending.returned (.bool b)) ((decide_eq_false (by omega)).symm), hH19⟩
    · -- not: 0 ≤ f.pl ∧ f.pl ≤ 4611686018427387903
      refine s_off (b' := false) 11 rfl (congrArg Value.bool (decide_eq_false h13)) rfl ?_
      refine s_off (b' := false) 11 rfl (congrArg Value.bool (decide_eq_false h13)) rfl ?_
      refine s_off (b' := false) 11 rfl (congrArg Value.bool (decide_eq_false h13)) rfl ?_
      refine s_op (o_pick_f (u := (.bool false)) ((rfl : _ = _).trans (congrArg Value.bool (decide_eq_false h13))) rfl ?_)
      refine s_op (o_move (v := (.bool false)) rfl ?_)
      refine s_off (b' := false) 16 rfl rfl rfl ?_
      refine s_off (b' := false) 16 rfl rfl rfl ?_
      refine s_off (b' := false) 16 rfl rfl rfl ?_
      refine s_off (b' := false) 16 rfl rfl rfl ?_
      refine s_op (o_pick_f (u := (.bool false)) rfl rfl ?_)
      refine s_op (o_assign (v := (.bool false)) rfl ?_)
      refine s_nil ?_
      refine t_norm (hK5 _ _ ?_)
      refine wp_ret ?_
      refine c_ret1 Tryz.results197  (v := (.bool false)) rfl ?_
      have hH20 : Has E w12 [R] := (hH11.front 1 rfl).first 1 rfl
      exact ⟨congrArg (fun b => Ending.returned (.bool b)) ((decide_eq_false (by omega)).symm), hH20⟩
  · -- not: 0 ≤ f.ep ∧ f.ep ≤ 2147483647
    refine s_off (b' := false) 6 rfl (congrArg Value.bool (decide_eq_false h9)) rfl ?_
    refine s_off (b' := false) 6 rfl (congrArg Value.bool (decide_eq_false h9)) rfl ?_
    refine s_off (b' := false) 6 rfl (congrArg Value.bool (decide_eq_false h9)) rfl ?_
    refine s_op (o_pick_f (u := (.bool false)) ((rfl : _ = _).trans (congrArg Value.bool (decide_eq_false h9))) rfl ?_)
    refine s_op (o_move (v := (.bool false)) rfl ?_)
    refine s_off (b' := false) 11 rfl rfl rfl ?_
    refine s_off (b' := false) 11 rfl rfl rfl ?_
    refine s_off (b' := false) 11 rfl rfl rfl ?_
    refine s_op (o_pick_f (u := (.bool false)) rfl rfl ?_)
    refine s_op (o_move (v := (.bool false)) rfl ?_)
    refine s_off (b' := false) 16 rfl rfl rfl ?_
    refine s_off (b' := false) 16 rfl rfl rfl ?_
    refine s_off (b' := false) 16 rfl rfl rfl ?_
    refine s_off (b' := false) 16 rfl rfl rfl ?_
    refine s_op (o_pick_f (u := (.bool false)) rfl rfl ?_)
    refine s_op (o_assign (v := (.bool false)) rfl ?_)
    refine s_nil ?_
    refine t_norm (hK5 _ _ ?_)
    refine wp_ret ?_
    refine c_ret1 Tryz.results197  (v := (.bool false)) rfl ?_
    have hH21 : Has E w8 [R] := (hH7.front 1 rfl).first 1 rfl
    exact ⟨congrArg (fun b => Ending.returned (.bool b)) ((decide_eq_false (by omega)).symm), hH21⟩
end Go.Q
namespace Go.Q
open Go.Proofs
set_option linter.unusedVariables false
set_option maxRecDepth 100000
attribute [local irreducible] wpList OK Code.wp
set_option maxHeartbeats 4000000 in
theorem make_c {E w : World} {R : List Hp} (hH : Has E w [R]) (hg : CellsAt R 0 0 nibV) (f : Fr) (hfl : f.data.length ≤ 9223372036854775807) {v : Value} {l : List (List UInt8)} (hv : Sl R 1 v l.length (l.map sV)) (hn : l.length ≤ 1000000) (hl : l.flatten.length ≤ 1000000000) (hd : f.data.length + l.flatten.length ≤ 9223372036854775807) :
    Calls Tryz.prog 107 #[(.agg #[(.int .i64 f.ep), (.int .i64 f.pl), (.int .i64 f.gsn), (S f.data)]), v] w fun e w' => e = .returned (S (makeS (Fr.mk f.ep f.pl f.gsn (f.data ++ l.flatten)))) ∧ Has E w' [R] := by
  refine c_enter (args := [(.agg #[(.int .i64 f.ep), (.int .i64 f.pl), (.int .i64 f.gsn), (S f.data)]), v]) Tryz.func107 rfl Tryz.ntmps107 (by simp) ?_
  refine wp_seq_k fun K1 hK1 => ?_
  refine c_region ?_
  refine s_op (o_box (cs := #[(.int .i64 f.ep), (.int .i64 f.pl), (.int .i64 f.gsn), (S f.data)]) rfl rfl hH fun b2 w3 hH4 => ?_)
  refine s_op (o_assign (v := (S ([] : List UInt8))) rfl ?_)
  refine s_nil ?_
  refine t_norm (hK1 _ _ ?_)
  refine wp_seq_k fun K5 hK5 => ?_
  refine Rest.region mixed (by kernel_rfl) ?_
  have hH6 : Has E { w3 with drawn := w3.drawn + 1 } [[Hp.one b2 (.cells #[(.int .i64 f.ep), (.int .i64 f.pl), (.int .i64 f.gsn), (S f.data)] 176 (0, 0))], R] := Has0.drew hH4 _
  refine Rest.phaseA (fun w_ => Has E w_ [[Hp.one b2 (.cells #[(.int .i64 f.ep), (.int .i64 f.pl), (.int .i64 f.gsn), (S f.data)] 176 (0, 0))]]) 0 4 4 rfl (by decide) (by kernel_rfl) ?_
  refine a_op 0 rfl (by kernel_rfl) (fun w_ h_ => o_fieldAddr (k := 3) (fun _ => by kernel_rfl) rfl ⟨rfl, rfl⟩) ?_
  refine a_op 1 rfl (by kernel_rfl) (fun w_ h_ => o_load1 (v := (S f.data)) Tryz.underlying9 rfl rfl h_ (seg_sub 0 rfl) (CellsAt.one rfl) ⟨rfl, rfl⟩) ?_
  refine a_op 2 rfl (by kernel_rfl) (fun w_ h_ => o_move (v := v) rfl ⟨rfl, rfl⟩) ?_
  have hH7 : Has E { w3 with drawn := w3.drawn + 1 } [[Hp.one b2 (.cells #[(.int .i64 f.ep), (.int .i64 f.pl), (.int .i64 f.gsn), (S f.data)] 176 (0, 0))]] := hH6.first 1 rfl
  refine a_w 3 rfl (by kernel_rfl) hH7 (o_callf (vs := #[v, (S ([] : List UInt8))]) ca118 rfl (args2 rfl rfl) (join_c hH6.all (hv.mono (seg_sub 1 rfl)) hn hl) ?_)
  rintro _ w10 ⟨rfl, hX8⟩
  refine ⟨_, rfl, ?_⟩
  have hH9 := hX8.of_all
  have hH11 : Has E w10 [[Hp.one b2 (.cells #[(.int .i64 f.ep), (.int .i64 f.pl), (.int .i64 f.gsn), (S f.data)] 176 (0, 0))]] := hH9.first 1 rfl
  refine a_done (by kernel_rfl) hH11 ?_
  refine r_op 4 rfl (by kernel_rfl) (o_sadd rfl rfl (by omega) ?_)
  refine r_op 5 rfl (by kernel_rfl) (o_fieldAddr (k := 3) (fun _ => by kernel_rfl) rfl ?_)
  refine r_eff 6 rfl (by kernel_rfl) (o_store1 (c' := #[(.int .i64 f.ep), (.int .i64 f.pl), (.int .i64 f.gsn), (S (f.data ++ l.flatten))]) ti9 rfl rfl rfl (by simp) rfl (hH9.front 0 rfl) fun w12 hH13 => ?_)
  refine Rest.done (by kernel_rfl) ?_
  refine t_norm (hK5 _ _ ?_)
  refine wp_seq_k fun K14 hK14 => ?_
  refine wp_seq_k fun K15 hK15 => ?_
  refine c_region ?_
  refine s_op (o_loadN (cs := [(.int .i64 f.ep), (.int .i64 f.pl), (.int .i64 f.gsn), (S (f.data ++ l.flatten))]) Tryz.underlying176 rfl ti176 rfl hH13 (seg_sub 0 rfl) (CellsAt.one rfl) ?_)
  refine s_op (o_callf (vs := #[(.agg #[(.int .i64 f.ep), (.int .i64 f.pl), (.int .i64 f.gsn), (S (f.data ++ l.flatten))])]) ca197 rfl (args1 rfl) (right_c hH13.all (Fr.mk f.ep f.pl f.gsn (f.data ++ l.flatten)) (by simp only [List.length_append]; omega)) ?_)
  rintro _ w18 ⟨rfl, hX16⟩
  refine ⟨_, rfl, ?_⟩
  have hH17 := hX16.of_all
  refine s_op (o_not rfl ?_)
  refine s_nil ?_
  refine t_norm (hK15 _ _ ?_)
  refine c_condb rfl (fun h19 => ?_) (fun h19 => ?_)
  · -- !(rightS (Fr.mk f.ep f.pl f.gsn (f.data ++ l.flatten)))
    have h19_n : (rightS (Fr.mk f.ep f.pl f.gsn (f.data ++ l.flatten))) = false := by first | simpa using h19 | exact Bool.of_not_eq_true (fun g_ => by rw [g_] at h19; cases h19)
    refine wp_seq_k fun K20 hK20 => ?_
    refine c_region ?_
    refine s_op (o_assign (v := (S ([] : List UInt8))) rfl ?_)
    refine s_nil ?_
    refine t_norm (hK20 _ _ ?_)
    refine wp_ret ?_
    refine t_ret (c_ret1 Tryz.results107  (v := (S ([] : List UInt8))) rfl ?_)
    have hH21 : Has E w18 [R] := (hH17.front 1 rfl).first 1 rfl
    exact ⟨by rw [makeS_no (by simpa using ‹(!_) = true›)], hH21⟩
  · -- not: !(rightS (Fr.mk f.ep f.pl f.gsn (f.data ++ l.flatten)))
    have h19_n : (rightS (Fr.mk f.ep f.pl f.gsn (f.data ++ l.flatten))) = true := by first | simpa using h19 | exact Bool.of_not_eq_false (fun g_ => by rw [g_] at h19; cases h19)
    have hr : rightS (Fr.mk f.ep f.pl f.gsn (f.data ++ l.flatten)) = true := by simpa using h19
    have hrl := (rightS_of hr).2.2.2.2.2.2
    simp only [List.length_append] at hrl
    refine wp_skip ?_
    refine t_norm (hK14 _ _ ?_)
    refine wp_seq_k fun K22 hK22 => ?_
    refine c_flow [[Hp.one b2 (.cells #[(.int .i64 f.ep), (.int .i64 f.pl), (.int .i64 f.gsn), (S (f.data ++ l.flatten))] 176 (0, 0))], R] (fun i_ => match i_ with | _ => []) (fun i_ v_ h_ => match i_ with | 0 => v_ = (.pointer (some ⟨b2, 3, none⟩)) ∧ h_ = [] | 1 => v_ = (S (f.data ++ l.flatten)) ∧ h_ = [] | 2 => v_ = (.int .i64 ((f.data ++ l.flatten).length : Int)) ∧ h_ = [] | 3 => ∃ (b23 : Nat), v_ = (.slice (some ⟨b23, 0, none⟩) 1 1) ∧ h_ = [Hp.one b23 (.cells #[(.int .i64 ((f.data ++ l.flatten).length : Int))] 3 (0, 0))] | 4 => v_ = (S (putS 1 [((f.data ++ l.flatten).length : Int)])) ∧ h_ = [] | 5 => v_ = (.pointer (some ⟨b2, 0, none⟩)) ∧ h_ = [] | 6 => v_ = (.int .i64 f.ep) ∧ h_ = [] | 7 => ∃ (b29 : Nat), v_ = (.slice (some ⟨b29, 0, none⟩) 1 1) ∧ h_ = [Hp.one b29 (.cells #[(.int .i64 f.ep)] 3 (0, 0))] | 8 => v_ = (S (putS 4 [f.ep])) ∧ h_ = [] | 9 => v_ = (.pointer (some ⟨b2, 1, none⟩)) ∧ h_ = [] | 10 => v_ = (.int .i64 f.pl) ∧ h_ = [] | 11 => v_ = (.pointer (some ⟨b2, 2, none⟩)) ∧ h_ = [] | 12 => v_ = (.int .i64 f.gsn) ∧ h_ = [] | 13 => ∃ (b35 : Nat), v_ = (.slice (some ⟨b35, 0, none⟩) 2 2) ∧ h_ = [Hp.one b35 (.cells #[(.int .i64 f.pl), (.int .i64 f.gsn)] 3 (0, 0))] | 14 => v_ = (S (putS 8 [f.pl, f.gsn])) ∧ h_ = [] | 15 => v_ = (.pointer (some ⟨b2, 3, none⟩)) ∧ h_ = [] | 16 => v_ = (S (f.data ++ l.flatten)) ∧ h_ = [] | 17 => ∃ (b41 : Nat), v_ = (.slice (some ⟨b41, 0, none⟩) 4 4) ∧ h_ = [Hp.one b41 (.cells #[(S (putS 1 [((f.data ++ l.flatten).length : Int)])), (S (putS 4 [f.ep])), (S (putS 8 [f.pl, f.gsn])), (S (f.data ++ l.flatten))] 9 (0, 0))] | 18 => v_ = (S (sealS [(putS 1 [((f.data ++ l.flatten).length : Int)]), (putS 4 [f.ep]), (putS 8 [f.pl, f.gsn]), f.data ++ l.flatten].flatten)) ∧ h_ = [] | 19 => v_ = (S (sealS [(putS 1 [((f.data ++ l.flatten).length : Int)]), (putS 4 [f.ep]), (putS 8 [f.pl, f.gsn]), f.data ++ l.flatten].flatten)) ∧ h_ = [] | _ => True) mixed (by kernel_rfl) (flow_has (cs := []) hH17 rfl) ?_ ?_
    · intro i_ o_ ho_ r' w' G hs_ ht
      match i_, ho_ with
      | 0, ho_ =>
        obtain rfl := Option.some.inj ho_
        have e2 : r' 2 = (.pointer (some ⟨b2, 0, none⟩)) := ht.was 2 (by kernel_rfl)
        have hG := ht.has.drop
        refine o_fieldAddr (k := 3) (fun _ => by kernel_rfl) e2 ?_
        exact ⟨_, ⟨rfl, rfl⟩, hG⟩
      | 1, ho_ =>
        obtain rfl := Option.some.inj ho_
        obtain ⟨e14, eh0⟩ := (ht.done 0 _ rfl rfl).1
        have hG := ht.has.drop
        refine o_load1 (v := (S (f.data ++ l.flatten))) Tryz.underlying9 rfl e14 hG (ht.fr [Hp.one b2 (.cells #[(.int .i64 f.ep), (.int .i64 f.pl), (.int .i64 f.gsn), (S (f.data ++ l.flatten))] 176 (0, 0))] (by simp)) (CellsAt.one rfl) ?_
        exact ⟨_, ⟨rfl, rfl⟩, hG⟩
      | 2, ho_ =>
        obtain rfl := Option.some.inj ho_
        obtain ⟨e15, eh1⟩ := (ht.done 1 _ rfl rfl).1
        have hG := ht.has.drop
        refine o_slen Tryz.underlying9 e15 ?_
        exact ⟨_, ⟨rfl, rfl⟩, hG⟩
      | 3, ho_ =>
        obtain rfl := Option.some.inj ho_
        obtain ⟨e16, eh2⟩ := (ht.done 2 _ rfl rfl).1
        have hG := ht.has.drop
        refine o_buildSlice (ps := #[(0, (.int .i64 ((f.data ++ l.flatten).length : Int)))]) (cells := #[(.int .i64 ((f.data ++ l.flatten).length : Int))]) Tryz.underlying47 ti3 (by decide) (parts1 e16) (by kernel_rfl) hG fun b23 w24 hH25 => ?_
        exact ⟨_, ⟨b23, rfl, rfl⟩, hH25⟩
      | 4, ho_ =>
        obtain rfl := Option.some.inj ho_
        obtain ⟨b23, e17, eh3⟩ := (ht.done 3 _ rfl rfl).1
        have hG := ht.has.drop
        refine o_callf (vs := #[(.int .i64 1), (.slice (some ⟨b23, 0, none⟩) 1 1)]) ca90 rfl (args2 rfl e17) (put_c hG.all 1 (l := [((f.data ++ l.flatten).length : Int)]) ((sl_lit (f := iV) (l := [((f.data ++ l.flatten).length : Int)]) rfl rfl (by simp)).mono (eh3 ▸ (ht.done 3 _ rfl rfl).2)) (by simp)) ?_
        rintro _ w28 ⟨rfl, hX26⟩
        refine ⟨_, rfl, ?_⟩
        have hH27 := hX26.of_all
        exact ⟨_, ⟨rfl, rfl⟩, hH27⟩
      | 5, ho_ =>
        obtain rfl := Option.some.inj ho_
        have e2 : r' 2 = (.pointer (some ⟨b2, 0, none⟩)) := ht.was 2 (by kernel_rfl)
        have hG := ht.has.drop
        refine o_fieldAddr (k := 0) (fun _ => by kernel_rfl) e2 ?_
        exact ⟨_, ⟨rfl, rfl⟩, hG⟩
      | 6, ho_ =>
        obtain rfl := Option.some.inj ho_
        obtain ⟨e19, eh5⟩ := (ht.done 5 _ rfl rfl).1
        have hG := ht.has.drop
        refine o_load1 (v := (.int .i64 f.ep)) Tryz.underlying3 rfl e19 hG (ht.fr [Hp.one b2 (.cells #[(.int .i64 f.ep), (.int .i64 f.pl), (.int .i64 f.gsn), (S (f.data ++ l.flatten))] 176 (0, 0))] (by simp)) (CellsAt.one rfl) ?_
        exact ⟨_, ⟨rfl, rfl⟩, hG⟩
      | 7, ho_ =>
        obtain rfl := Option.some.inj ho_
        obtain ⟨e20, eh6⟩ := (ht.done 6 _ rfl rfl).1
        have hG := ht.has.drop
        refine o_buildSlice (ps := #[(0, (.int .i64 f.ep))]) (cells := #[(.int .i64 f.ep)]) Tryz.underlying47 ti3 (by decide) (parts1 e20) (by kernel_rfl) hG fun b29 w30 hH31 => ?_
        exact ⟨_, ⟨b29, rfl, rfl⟩, hH31⟩
      | 8, ho_ =>
        obtain rfl := Option.some.inj ho_
        obtain ⟨b23, e17, eh3⟩ := (ht.done 3 _ rfl rfl).1
        obtain ⟨b29, e21, eh7⟩ := (ht.done 7 _ rfl rfl).1
        have hG := ht.has.drop
        refine o_callf (vs := #[(.int .i64 4), (.slice (some ⟨b29, 0, none⟩) 1 1)]) ca90 rfl (args2 rfl e21) (put_c hG.all 4 (l := [f.ep]) ((sl_lit (f := iV) (l := [f.ep]) rfl rfl (by simp)).mono (eh7 ▸ (ht.done 7 _ rfl rfl).2)) (by simp)) ?_
        rintro _ w34 ⟨rfl, hX32⟩
        refine ⟨_, rfl, ?_⟩
        have hH33 := hX32.of_all
        exact ⟨_, ⟨rfl, rfl⟩, hH33⟩
      | 9, ho_ =>
        obtain rfl := Option.some.inj ho_
        have e2 : r' 2 = (.pointer (some ⟨b2, 0, none⟩)) := ht.was 2 (by kernel_rfl)
        have hG := ht.has.drop
        refine o_fieldAddr (k := 1) (fun _ => by kernel_rfl) e2 ?_
        exact ⟨_, ⟨rfl, rfl⟩, hG⟩
      | 10, ho_ =>
        obtain rfl := Option.some.inj ho_
        obtain ⟨e23, eh9⟩ := (ht.done 9 _ rfl rfl).1
        have hG := ht.has.drop
        refine o_load1 (v := (.int .i64 f.pl)) Tryz.underlying3 rfl e23 hG (ht.fr [Hp.one b2 (.cells #[(.int .i64 f.ep), (.int .i64 f.pl), (.int .i64 f.gsn), (S (f.data ++ l.flatten))] 176 (0, 0))] (by simp)) (CellsAt.one rfl) ?_
        exact ⟨_, ⟨rfl, rfl⟩, hG⟩
      | 11, ho_ =>
        obtain rfl := Option.some.inj ho_
        have e2 : r' 2 = (.pointer (some ⟨b2, 0, none⟩)) := ht.was 2 (by kernel_rfl)
        have hG := ht.has.drop
        refine o_fieldAddr (k := 2) (fun _ => by kernel_rfl) e2 ?_
        exact ⟨_, ⟨rfl, rfl⟩, hG⟩
      | 12, ho_ =>
        obtain rfl := Option.some.inj ho_
        obtain ⟨e25, eh11⟩ := (ht.done 11 _ rfl rfl).1
        have hG := ht.has.drop
        refine o_load1 (v := (.int .i64 f.gsn)) Tryz.underlying3 rfl e25 hG (ht.fr [Hp.one b2 (.cells #[(.int .i64 f.ep), (.int .i64 f.pl), (.int .i64 f.gsn), (S (f.data ++ l.flatten))] 176 (0, 0))] (by simp)) (CellsAt.one rfl) ?_
        exact ⟨_, ⟨rfl, rfl⟩, hG⟩
      | 13, ho_ =>
        obtain rfl := Option.some.inj ho_
        obtain ⟨e24, eh10⟩ := (ht.done 10 _ rfl rfl).1
        obtain ⟨e26, eh12⟩ := (ht.done 12 _ rfl rfl).1
        have hG := ht.has.drop
        refine o_buildSlice (ps := #[(0, (.int .i64 f.pl)), (1, (.int .i64 f.gsn))]) (cells := #[(.int .i64 f.pl), (.int .i64 f.gsn)]) Tryz.underlying47 ti3 (by decide) (parts2 e24 e26) (by kernel_rfl) hG fun b35 w36 hH37 => ?_
        exact ⟨_, ⟨b35, rfl, rfl⟩, hH37⟩
      | 14, ho_ =>
        obtain rfl := Option.some.inj ho_
        obtain ⟨b23, e17, eh3⟩ := (ht.done 3 _ rfl rfl).1
        obtain ⟨b29, e21, eh7⟩ := (ht.done 7 _ rfl rfl).1
        obtain ⟨b35, e27, eh13⟩ := (ht.done 13 _ rfl rfl).1
        have hG := ht.has.drop
        refine o_callf (vs := #[(.int .i64 8), (.slice (some ⟨b35, 0, none⟩) 2 2)]) ca90 rfl (args2 rfl e27) (put_c hG.all 8 (l := [f.pl, f.gsn]) ((sl_lit (f := iV) (l := [f.pl, f.gsn]) rfl rfl (by simp)).mono (eh13 ▸ (ht.done 13 _ rfl rfl).2)) (by simp)) ?_
        rintro _ w40 ⟨rfl, hX38⟩
        refine ⟨_, rfl, ?_⟩
        have hH39 := hX38.of_all
        exact ⟨_, ⟨rfl, rfl⟩, hH39⟩
      | 15, ho_ =>
        obtain rfl := Option.some.inj ho_
        have e2 : r' 2 = (.pointer (some ⟨b2, 0, none⟩)) := ht.was 2 (by kernel_rfl)
        have hG := ht.has.drop
        refine o_fieldAddr (k := 3) (fun _ => by kernel_rfl) e2 ?_
        exact ⟨_, ⟨rfl, rfl⟩, hG⟩
      | 16, ho_ =>
        obtain rfl := Option.some.inj ho_
        obtain ⟨e29, eh15⟩ := (ht.done 15 _ rfl rfl).1
        have hG := ht.has.drop
        refine o_load1 (v := (S (f.data ++ l.flatten))) Tryz.underlying9 rfl e29 hG (ht.fr [Hp.one b2 (.cells #[(.int .i64 f.ep), (.int .i64 f.pl), (.int .i64 f.gsn), (S (f.data ++ l.flatten))] 176 (0, 0))] (by simp)) (CellsAt.one rfl) ?_
        exact ⟨_, ⟨rfl, rfl⟩, hG⟩
      | 17, ho_ =>
        obtain rfl := Option.some.inj ho_
        obtain ⟨b23, e17, eh3⟩ := (ht.done 3 _ rfl rfl).1
        obtain ⟨e18, eh4⟩ := (ht.done 4 _ rfl rfl).1
        obtain ⟨b29, e21, eh7⟩ := (ht.done 7 _ rfl rfl).1
        obtain ⟨e22, eh8⟩ := (ht.done 8 _ rfl rfl).1
        obtain ⟨b35, e27, eh13⟩ := (ht.done 13 _ rfl rfl).1
        obtain ⟨e28, eh14⟩ := (ht.done 14 _ rfl rfl).1
        obtain ⟨e30, eh16⟩ := (ht.done 16 _ rfl rfl).1
        have hG := ht.has.drop
        refine o_buildSlice (ps := #[(0, (S (putS 1 [((f.data ++ l.flatten).length : Int)]))), (1, (S (putS 4 [f.ep]))), (2, (S (putS 8 [f.pl, f.gsn]))), (3, (S (f.data ++ l.flatten)))]) (cells := #[(S (putS 1 [((f.data ++ l.flatten).length : Int)])), (S (putS 4 [f.ep])), (S (putS 8 [f.pl, f.gsn])), (S (f.data ++ l.flatten))]) Tryz.underlying46 ti9 (by decide) (parts4 e18 e22 e28 e30) (by kernel_rfl) hG fun b41 w42 hH43 => ?_
        exact ⟨_, ⟨b41, rfl, rfl⟩, hH43⟩
      | 18, ho_ =>
        obtain rfl := Option.some.inj ho_
        obtain ⟨b23, e17, eh3⟩ := (ht.done 3 _ rfl rfl).1
        obtain ⟨b29, e21, eh7⟩ := (ht.done 7 _ rfl rfl).1
        obtain ⟨b35, e27, eh13⟩ := (ht.done 13 _ rfl rfl).1
        obtain ⟨b41, e31, eh17⟩ := (ht.done 17 _ rfl rfl).1
        have hG := ht.has.drop
        refine o_callf (vs := #[(.slice (some ⟨b41, 0, none⟩) 4 4)]) ca89 rfl (args1 e31) (seal_c hG.all (hg.mono (ht.fr R (by simp))) ((sl_lit (f := sV) (l := [(putS 1 [((f.data ++ l.flatten).length : Int)]), (putS 4 [f.ep]), (putS 8 [f.pl, f.gsn]), f.data ++ l.flatten]) rfl rfl (by simp)).mono (eh17 ▸ (ht.done 17 _ rfl rfl).2)) (by simp) (by rw [put_flat hr, List.length_append, headS_len]; simp only [List.length_append]; omega)) ?_
        rintro _ w46 ⟨rfl, hX44⟩
        refine ⟨_, rfl, ?_⟩
        have hH45 := hX44.of_all
        exact ⟨_, ⟨rfl, rfl⟩, hH45⟩
      | 19, ho_ =>
        obtain rfl := Option.some.inj ho_
        obtain ⟨b23, e17, eh3⟩ := (ht.done 3 _ rfl rfl).1
        obtain ⟨b29, e21, eh7⟩ := (ht.done 7 _ rfl rfl).1
        obtain ⟨b35, e27, eh13⟩ := (ht.done 13 _ rfl rfl).1
        obtain ⟨b41, e31, eh17⟩ := (ht.done 17 _ rfl rfl).1
        obtain ⟨e32, eh18⟩ := (ht.done 18 _ rfl rfl).1
        have hG := ht.has.drop
        refine o_assign (v := (S (sealS [(putS 1 [((f.data ++ l.flatten).length : Int)]), (putS 4 [f.ep]), (putS 8 [f.pl, f.gsn]), f.data ++ l.flatten].flatten))) e32 ?_
        exact ⟨_, ⟨rfl, rfl⟩, hG⟩
      | i_ + 20, ho_ => exact absurd ho_ (by simp)
    · intro vs47 hs48 w49 hT50 hH51
      obtain ⟨e0_, eh0_⟩ := hT50 0 _ rfl
      obtain ⟨e1_, eh1_⟩ := hT50 1 _ rfl
      obtain ⟨e2_, eh2_⟩ := hT50 2 _ rfl
      obtain ⟨b23, e3_, eh3_⟩ := hT50 3 _ rfl
      obtain ⟨e4_, eh4_⟩ := hT50 4 _ rfl
      obtain ⟨e5_, eh5_⟩ := hT50 5 _ rfl
      obtain ⟨e6_, eh6_⟩ := hT50 6 _ rfl
      obtain ⟨b29, e7_, eh7_⟩ := hT50 7 _ rfl
      obtain ⟨e8_, eh8_⟩ := hT50 8 _ rfl
      obtain ⟨e9_, eh9_⟩ := hT50 9 _ rfl
      obtain ⟨e10_, eh10_⟩ := hT50 10 _ rfl
      obtain ⟨e11_, eh11_⟩ := hT50 11 _ rfl
      obtain ⟨e12_, eh12_⟩ := hT50 12 _ rfl
      obtain ⟨b35, e13_, eh13_⟩ := hT50 13 _ rfl
      obtain ⟨e14_, eh14_⟩ := hT50 14 _ rfl
      obtain ⟨e15_, eh15_⟩ := hT50 15 _ rfl
      obtain ⟨e16_, eh16_⟩ := hT50 16 _ rfl
      obtain ⟨b41, e17_, eh17_⟩ := hT50 17 _ rfl
      obtain ⟨e18_, eh18_⟩ := hT50 18 _ rfl
      obtain ⟨e19_, eh19_⟩ := hT50 19 _ rfl
      have hH52 : Has E w49 ([[Hp.one b2 (.cells #[(.int .i64 f.ep), (.int .i64 f.pl), (.int .i64 f.gsn), (S (f.data ++ l.flatten))] 176 (0, 0))], R] ++ [[Hp.one b23 (.cells #[(.int .i64 ((f.data ++ l.flatten).length : Int))] 3 (0, 0))], [Hp.one b29 (.cells #[(.int .i64 f.ep)] 3 (0, 0))], [Hp.one b35 (.cells #[(.int .i64 f.pl), (.int .i64 f.gsn)] 3 (0, 0))], [Hp.one b41 (.cells #[(S (putS 1 [((f.data ++ l.flatten).length : Int)])), (S (putS 4 [f.ep])), (S (putS 8 [f.pl, f.gsn])), (S (f.data ++ l.flatten))] 9 (0, 0))]]) := flow_back (cs := [[Hp.one b23 (.cells #[(.int .i64 ((f.data ++ l.flatten).length : Int))] 3 (0, 0))], [Hp.one b29 (.cells #[(.int .i64 f.ep)] 3 (0, 0))], [Hp.one b35 (.cells #[(.int .i64 f.pl), (.int .i64 f.gsn)] 3 (0, 0))], [Hp.one b41 (.cells #[(S (putS 1 [((f.data ++ l.flatten).length : Int)])), (S (putS 4 [f.ep])), (S (putS 8 [f.pl, f.gsn])), (S (f.data ++ l.flatten))] 9 (0, 0))]]) hH51 (by show (hs48 0 ++ (hs48 1 ++ (hs48 2 ++ (hs48 3 ++ (hs48 4 ++ (hs48 5 ++ (hs48 6 ++ (hs48 7 ++ (hs48 8 ++ (hs48 9 ++ (hs48 10 ++ (hs48 11 ++ (hs48 12 ++ (hs48 13 ++ (hs48 14 ++ (hs48 15 ++ (hs48 16 ++ (hs48 17 ++ (hs48 18 ++ (hs48 19 ++ [])))))))))))))))))))) = _; rw [eh0_, eh1_, eh2_, eh3_, eh4_, eh5_, eh6_, eh7_, eh8_, eh9_, eh10_, eh11_, eh12_, eh13_, eh14_, eh15_, eh16_, eh17_, eh18_, eh19_]; rfl)
      generalize hr54 : puts vs47 _ 0 _ = r53
      have e55_0 : r53 0 = (.agg #[(.int .i64 f.ep), (.int .i64 f.pl), (.int .i64 f.gsn), (S f.data)]) := by rw [← hr54]; exact rfl
      have e55_1 : r53 1 = v := by rw [← hr54]; exact rfl
      have e55_2 : r53 2 = (.pointer (some ⟨b2, 0, none⟩)) := by rw [← hr54]; exact rfl
      have e55_4 : r53 4 = (S (sealS [(putS 1 [((f.data ++ l.flatten).length : Int)]), (putS 4 [f.ep]), (putS 8 [f.pl, f.gsn]), f.data ++ l.flatten].flatten)) := by rw [← hr54]; exact e19_
      have e55_13 : r53 13 = (.bool (!(rightS (Fr.mk f.ep f.pl f.gsn (f.data ++ l.flatten))))) := by rw [← hr54]; exact rfl
      refine t_norm (hK22 _ _ ?_)
      refine wp_ret ?_
      refine c_ret1 Tryz.results107  (v := (S (sealS [(putS 1 [((f.data ++ l.flatten).length : Int)]), (putS 4 [f.ep]), (putS 8 [f.pl, f.gsn]), f.data ++ l.flatten].flatten))) e55_4 ?_
      have hH56 : Has E w49 [R] := (hH52.front 1 rfl).first 1 rfl
      exact ⟨by rw [makeS_yes hr, ← put_flat hr], hH56⟩
theorem make1_c {E w : World} {R : List Hp} (hH : Has E w [R]) (hg : CellsAt R 0 0 nibV) (f : Fr) (hfl : f.data.length ≤ 9223372036854775807) :
    Calls Tryz.prog 107 #[(.agg #[(.int .i64 f.ep), (.int .i64 f.pl), (.int .i64 f.gsn), (S f.data)]), (.slice none 0 0)] w fun e w' => e = .returned (S (makeS f)) ∧ Has E w' [R] := by
  have h := make_c hH hg f hfl (v := .slice none 0 0) (l := []) (sl_nil 1) (by simp) (by simp) (by simpa using hfl)
  have e : (Fr.mk f.ep f.pl f.gsn (f.data ++ ([] : List (List UInt8)).flatten)) = f := by simp
  rw [e] at h
  exact h
end Go.Q
namespace Go.Q
open Go.Proofs
set_option linter.unusedVariables false
set_option maxRecDepth 100000
attribute [local irreducible] wpList OK Code.wp
set_option maxHeartbeats 4000000 in
theorem ssave_c {E w : World} {R sg ss : List Hp} {pb sb db ab : Nat} {d : Dv} {v : StmS} {n : Int} (hH : Has E w [sg, [Hp.one pb (.cells #[(.bool d.p.off), (.bool d.p.armed), (.int .i64 d.p.left), (.int .i64 d.p.uses)] 145 (0, 0))], [Hp.one ab (.cells #[(.pointer (some ⟨db, 0, none⟩)), (.int .i64 2), (.int .i64 n)] 265 (0, 0))], ss, R]) (hd : DevAt pb sg db d.la d.lo) (hs : StmAt db ab sb ss v) {k : Nat} (hf : Few d.p k) (hk : k ≤ 400000) (hlk : LoOk d.lo d.la.length) (h4 : d.la.length ≤ 4096) (hg : CellsAt R 0 0 nibV) {h : Hd} :
    Calls Tryz.prog 110 #[(.pointer (some ⟨sb, 0, none⟩)), (.agg #[(.int .i64 h.seq), (.int .i64 h.ep), (.int .i64 h.cut), (.int .i64 h.st), (.int .i64 h.mrk)])] w fun e w' => ∃ sg' ss', e = .returned (.int .i64 (saveS d v h).1) ∧ DevAt pb sg' db (saveS d v h).2.1.la (saveS d v h).2.1.lo ∧ StmAt db ab sb ss' (saveS d v h).2.2 ∧ Has E w' [sg', [Hp.one pb (.cells #[(.bool ((saveS d v h).2.1).p.off), (.bool ((saveS d v h).2.1).p.armed), (.int .i64 ((saveS d v h).2.1).p.left), (.int .i64 ((saveS d v h).2.1).p.uses)] 145 (0, 0))], [Hp.one ab (.cells #[(.pointer (some ⟨db, 0, none⟩)), (.int .i64 2), (.int .i64 n)] 265 (0, 0))], ss', R] := by
  refine c_enter (args := [(.pointer (some ⟨sb, 0, none⟩)), (.agg #[(.int .i64 h.seq), (.int .i64 h.ep), (.int .i64 h.cut), (.int .i64 h.st), (.int .i64 h.mrk)])]) Tryz.func110 rfl Tryz.ntmps110 (by simp) ?_
  refine wp_seq_k fun K1 hK1 => ?_
  refine c_region ?_
  refine s_op (o_box (cs := #[(.int .i64 h.seq), (.int .i64 h.ep), (.int .i64 h.cut), (.int .i64 h.st), (.int .i64 h.mrk)]) rfl rfl hH fun b2 w3 hH4 => ?_)
  refine s_op (o_assign (v := (.int .i64 0)) rfl ?_)
  refine s_nil ?_
  refine t_norm (hK1 _ _ ?_)
  refine wp_seq_k fun K5 hK5 => ?_
  refine Rest.region mixed (by kernel_rfl) ?_
  have hH6 : Has E { w3 with drawn := w3.drawn + 1 } [[Hp.one b2 (.cells #[(.int .i64 h.seq), (.int .i64 h.ep), (.int .i64 h.cut), (.int .i64 h.st), (.int .i64 h.mrk)] 23 (0, 0))], sg, [Hp.one pb (.cells #[(.bool d.p.off), (.bool d.p.armed), (.int .i64 d.p.left), (.int .i64 d.p.uses)] 145 (0, 0))], [Hp.one ab (.cells #[(.pointer (some ⟨db, 0, none⟩)), (.int .i64 2), (.int .i64 n)] 265 (0, 0))], ss, R] := Has0.drew hH4 _
  obtain ⟨x7, s8, rfl, f9⟩ := hs
  have hH10 : Has E { w3 with drawn := w3.drawn + 1 } [[Hp.one sb (.cells #[(.int .i64 v.seq), (.int .i64 v.ep), (.int .i64 v.hcut), (.int .i64 v.st), (.int .i64 v.mrk), (.pointer (some ⟨db, 0, none⟩)), (.pointer (some ⟨ab, 0, none⟩)), x7, (.int .i64 v.tail), (.int .i64 v.flushed), (.int .i64 v.res), (.bool v.cut), (.int .i64 v.err)] 175 (0, 0))], s8, [Hp.one b2 (.cells #[(.int .i64 h.seq), (.int .i64 h.ep), (.int .i64 h.cut), (.int .i64 h.st), (.int .i64 h.mrk)] 23 (0, 0))], sg, [Hp.one pb (.cells #[(.bool d.p.off), (.bool d.p.armed), (.int .i64 d.p.left), (.int .i64 d.p.uses)] 145 (0, 0))], [Hp.one ab (.cells #[(.pointer (some ⟨db, 0, none⟩)), (.int .i64 2), (.int .i64 n)] 265 (0, 0))], R] := Has.op2 (hH6.front 4 rfl)
  refine Rest.phaseA (fun w_ => Has E w_ [[Hp.one sb (.cells #[(.int .i64 v.seq), (.int .i64 v.ep), (.int .i64 v.hcut), (.int .i64 v.st), (.int .i64 v.mrk), (.pointer (some ⟨db, 0, none⟩)), (.pointer (some ⟨ab, 0, none⟩)), x7, (.int .i64 v.tail), (.int .i64 v.flushed), (.int .i64 v.res), (.bool v.cut), (.int .i64 v.err)] 175 (0, 0))], [Hp.one b2 (.cells #[(.int .i64 h.seq), (.int .i64 h.ep), (.int .i64 h.cut), (.int .i64 h.st), (.int .i64 h.mrk)] 23 (0, 0))]]) 0 11 11 rfl (by decide) (by kernel_rfl) ?_
  refine a_op 0 rfl (by kernel_rfl) (fun w_ h_ => o_move (v := (.pointer (some ⟨sb, 0, none⟩))) rfl ⟨rfl, rfl⟩) ?_
  refine a_op 1 rfl (by kernel_rfl) (fun w_ h_ => o_nilCheck rfl ⟨rfl, rfl⟩) ?_
  refine a_op 2 rfl (by kernel_rfl) (fun w_ h_ => o_fieldAddr (k := 5) (fun _ => by kernel_rfl) rfl ⟨rfl, rfl⟩) ?_
  refine a_op 3 rfl (by kernel_rfl) (fun w_ h_ => o_load1 (v := (.pointer (some ⟨db, 0, none⟩))) Tryz.underlying25 rfl rfl h_ (seg_sub 0 rfl) (CellsAt.one rfl) ⟨rfl, rfl⟩) ?_
  refine a_op 4 rfl (by kernel_rfl) (fun w_ h_ => o_loadN (cs := [(.int .i64 h.seq), (.int .i64 h.ep), (.int .i64 h.cut), (.int .i64 h.st), (.int .i64 h.mrk)]) Tryz.underlying23 rfl ti23 rfl h_ (seg_sub 1 rfl) (CellsAt.one rfl) ⟨rfl, rfl⟩) ?_
  have hH11 : Has E { w3 with drawn := w3.drawn + 1 } [[Hp.one sb (.cells #[(.int .i64 v.seq), (.int .i64 v.ep), (.int .i64 v.hcut), (.int .i64 v.st), (.int .i64 v.mrk), (.pointer (some ⟨db, 0, none⟩)), (.pointer (some ⟨ab, 0, none⟩)), x7, (.int .i64 v.tail), (.int .i64 v.flushed), (.int .i64 v.res), (.bool v.cut), (.int .i64 v.err)] 175 (0, 0))], [Hp.one b2 (.cells #[(.int .i64 h.seq), (.int .i64 h.ep), (.int .i64 h.cut), (.int .i64 h.st), (.int .i64 h.mrk)] 23 (0, 0))]] := ((hH10.front 2 rfl).front 1 rfl).first 2 rfl
  refine a_two 5 9 (by kernel_rfl) hH11 ?_ ?_
  · -- first operation 5
    have hH12 : Has E { w3 with drawn := w3.drawn + 1 } [[Hp.one sb (.cells #[(.int .i64 v.seq), (.int .i64 v.ep), (.int .i64 v.hcut), (.int .i64 v.st), (.int .i64 v.mrk), (.pointer (some ⟨db, 0, none⟩)), (.pointer (some ⟨ab, 0, none⟩)), x7, (.int .i64 v.tail), (.int .i64 v.flushed), (.int .i64 v.res), (.bool v.cut), (.int .i64 v.err)] 175 (0, 0))], [Hp.one b2 (.cells #[(.int .i64 h.seq), (.int .i64 h.ep), (.int .i64 h.cut), (.int .i64 h.st), (.int .i64 h.mrk)] 23 (0, 0))]] := ((hH10.front 2 rfl).front 1 rfl).first 2 rfl
    refine ok_w 5 rfl (o_callf (vs := #[(.pointer (some ⟨db, 0, none⟩)), (.int .i64 0), (.agg #[(.int .i64 h.seq), (.int .i64 h.ep), (.int .i64 h.cut), (.int .i64 h.st), (.int .i64 h.mrk)])]) ca123 rfl (args3 rfl rfl rfl) (hsv_c (d := d) ((hH10.front 4 rfl).front 4 rfl).all2 hd hf (by omega) hlk h4 (hg.mono (seg_sub 4 rfl)) 0 (h := h)) ?_)
    rintro _ w17 ⟨sg13, rfl, hd14, hX15⟩
    refine ⟨_, rfl, ?_⟩
    have hH16 : Has E w17 [sg13, [Hp.one pb (.cells #[(.bool ((svD d 0 h).2.2).p.off), (.bool ((svD d 0 h).2.2).p.armed), (.int .i64 ((svD d 0 h).2.2).p.left), (.int .i64 ((svD d 0 h).2.2).p.uses)] 145 (0, 0))], [Hp.one sb (.cells #[(.int .i64 v.seq), (.int .i64 v.ep), (.int .i64 v.hcut), (.int .i64 v.st), (.int .i64 v.mrk), (.pointer (some ⟨db, 0, none⟩)), (.pointer (some ⟨ab, 0, none⟩)), x7, (.int .i64 v.tail), (.int .i64 v.flushed), (.int .i64 v.res), (.bool v.cut), (.int .i64 v.err)] 175 (0, 0))], s8, [Hp.one b2 (.cells #[(.int .i64 h.seq), (.int .i64 h.ep), (.int .i64 h.cut), (.int .i64 h.st), (.int .i64 h.mrk)] 23 (0, 0))], [Hp.one ab (.cells #[(.pointer (some ⟨db, 0, none⟩)), (.int .i64 2), (.int .i64 n)] 265 (0, 0))], R] := hX15.of_all2
    refine a_op 6 rfl (by kernel_rfl) (fun w_ h_ => o_move (v := (.tuple #[(.agg #[(.int .i64 ((svD d 0 h).2.1).seq), (.int .i64 ((svD d 0 h).2.1).ep), (.int .i64 ((svD d 0 h).2.1).cut), (.int .i64 ((svD d 0 h).2.1).st), (.int .i64 ((svD d 0 h).2.1).mrk)]), (.int .i64 ((svD d 0 h).1))])) rfl ⟨rfl, rfl⟩) ?_
    refine a_op 7 rfl (by kernel_rfl) (fun w_ h_ => o_extract (v := (.agg #[(.int .i64 ((svD d 0 h).2.1).seq), (.int .i64 ((svD d 0 h).2.1).ep), (.int .i64 ((svD d 0 h).2.1).cut), (.int .i64 ((svD d 0 h).2.1).st), (.int .i64 ((svD d 0 h).2.1).mrk)])) rfl rfl ⟨rfl, rfl⟩) ?_
    refine a_op 8 rfl (by kernel_rfl) (fun w_ h_ => o_extract (v := (.int .i64 ((svD d 0 h).1))) rfl rfl ⟨rfl, rfl⟩) ?_
    have hH18 : Has E w17 [[Hp.one sb (.cells #[(.int .i64 v.seq), (.int .i64 v.ep), (.int .i64 v.hcut), (.int .i64 v.st), (.int .i64 v.mrk), (.pointer (some ⟨db, 0, none⟩)), (.pointer (some ⟨ab, 0, none⟩)), x7, (.int .i64 v.tail), (.int .i64 v.flushed), (.int .i64 v.res), (.bool v.cut), (.int .i64 v.err)] 175 (0, 0))], [Hp.one b2 (.cells #[(.int .i64 h.seq), (.int .i64 h.ep), (.int .i64 h.cut), (.int .i64 h.st), (.int .i64 h.mrk)] 23 (0, 0))]] := ((hH16.front 4 rfl).front 3 rfl).first 2 rfl
    refine a_w 9 rfl (by kernel_rfl) hH18 (o_alloc (cs := #[(.int .i64 0), (.int .i64 0), (.int .i64 0), (.int .i64 0), (.int .i64 0)]) ti23 rfl hH16 fun b19 w20 hH21 => ?_)
    have hH22 : Has E w20 [[Hp.one sb (.cells #[(.int .i64 v.seq), (.int .i64 v.ep), (.int .i64 v.hcut), (.int .i64 v.st), (.int .i64 v.mrk), (.pointer (some ⟨db, 0, none⟩)), (.pointer (some ⟨ab, 0, none⟩)), x7, (.int .i64 v.tail), (.int .i64 v.flushed), (.int .i64 v.res), (.bool v.cut), (.int .i64 v.err)] 175 (0, 0))], [Hp.one b2 (.cells #[(.int .i64 h.seq), (.int .i64 h.ep), (.int .i64 h.cut), (.int .i64 h.st), (.int .i64 h.mrk)] 23 (0, 0))]] := ((hH21.front 5 rfl).front 4 rfl).first 2 rfl
    refine a_we 10 rfl (by kernel_rfl) hH22 (o_storeN (vs := [(.int .i64 ((svD d 0 h).2.1).seq), (.int .i64 ((svD d 0 h).2.1).ep), (.int .i64 ((svD d 0 h).2.1).cut), (.int .i64 ((svD d 0 h).2.1).st), (.int .i64 ((svD d 0 h).2.1).mrk)]) (c' := #[(.int .i64 ((svD d 0 h).2.1).seq), (.int .i64 ((svD d 0 h).2.1).ep), (.int .i64 ((svD d 0 h).2.1).cut), (.int .i64 ((svD d 0 h).2.1).st), (.int .i64 ((svD d 0 h).2.1).mrk)]) ti23 rfl rfl rfl rfl (by intro u hu; simp only [List.mem_cons, List.not_mem_nil, or_false] at hu; rcases hu with rfl | rfl | rfl | rfl | rfl <;> first | rfl) (by simp) (by kernel_rfl) (hH21.front 0 rfl) fun w23 hH24 => ?_)
    have hH25 : Has E w23 [[Hp.one sb (.cells #[(.int .i64 v.seq), (.int .i64 v.ep), (.int .i64 v.hcut), (.int .i64 v.st), (.int .i64 v.mrk), (.pointer (some ⟨db, 0, none⟩)), (.pointer (some ⟨ab, 0, none⟩)), x7, (.int .i64 v.tail), (.int .i64 v.flushed), (.int .i64 v.res), (.bool v.cut), (.int .i64 v.err)] 175 (0, 0))], [Hp.one b2 (.cells #[(.int .i64 h.seq), (.int .i64 h.ep), (.int .i64 h.cut), (.int .i64 h.st), (.int .i64 h.mrk)] 23 (0, 0))]] := ((hH24.front 5 rfl).front 4 rfl).first 2 rfl
    refine a_done (by kernel_rfl) hH25 ?_
    refine r_op 11 rfl (by kernel_rfl) (o_assign (v := (.int .i64 ((svD d 0 h).1))) rfl ?_)
    refine Rest.done (by kernel_rfl) ?_
    refine t_norm (hK5 _ _ ?_)
    refine wp_seq_k fun K26 hK26 => ?_
    refine wp_seq_k fun K27 hK27 => ?_
    refine c_region ?_
    refine s_op (o_move (v := (.int .i64 ((svD d 0 h).1))) rfl ?_)
    refine s_op (o_eql (a := (svD d 0 h).1) (b := 0) rfl rfl ?_)
    refine s_nil ?_
    refine t_norm (hK27 _ _ ?_)
    refine c_cond rfl (fun h28 => ?_) (fun h28 => ?_)
    · -- (svD d 0 h).1 = 0
      refine c_region ?_
      refine s_op (o_move (v := (.pointer (some ⟨sb, 0, none⟩))) rfl ?_)
      refine s_op (o_loadN (cs := [(.int .i64 ((svD d 0 h).2.1).seq), (.int .i64 ((svD d 0 h).2.1).ep), (.int .i64 ((svD d 0 h).2.1).cut), (.int .i64 ((svD d 0 h).2.1).st), (.int .i64 ((svD d 0 h).2.1).mrk)]) Tryz.underlying23 rfl ti23 rfl hH24 (seg_sub 0 rfl) (CellsAt.one rfl) ?_)
      refine s_op (o_sight (v := (.agg #[(.int .i64 ((svD d 0 h).2.1).seq), (.int .i64 ((svD d 0 h).2.1).ep), (.int .i64 ((svD d 0 h).2.1).cut), (.int .i64 ((svD d 0 h).2.1).st), (.int .i64 ((svD d 0 h).2.1).mrk)])) (fun _ => by kernel_rfl) ?_)
      refine s_op (o_nilCheck rfl ?_)
      refine s_op (o_fieldAddr (k := 0) (fun _ => by kernel_rfl) rfl ?_)
      refine s_eff (o_storeN (vs := [(.int .i64 ((svD d 0 h).2.1).seq), (.int .i64 ((svD d 0 h).2.1).ep), (.int .i64 ((svD d 0 h).2.1).cut), (.int .i64 ((svD d 0 h).2.1).st), (.int .i64 ((svD d 0 h).2.1).mrk)]) (c' := #[(.int .i64 ((svD d 0 h).2.1).seq), (.int .i64 ((svD d 0 h).2.1).ep), (.int .i64 ((svD d 0 h).2.1).cut), (.int .i64 ((svD d 0 h).2.1).st), (.int .i64 ((svD d 0 h).2.1).mrk), (.pointer (some ⟨db, 0, none⟩)), (.pointer (some ⟨ab, 0, none⟩)), x7, (.int .i64 v.tail), (.int .i64 v.flushed), (.int .i64 v.res), (.bool v.cut), (.int .i64 v.err)]) ti173 rfl rfl rfl rfl (by intro u hu; simp only [List.mem_cons, List.not_mem_nil, or_false] at hu; rcases hu with rfl | rfl | rfl | rfl | rfl <;> first | rfl) (by simp) (by kernel_rfl) (hH24.front 3 rfl) fun w29 hH30 => ?_)
      refine s_nil ?_
      refine t_norm (hK26 _ _ ?_)
      refine wp_seq_k fun K31 hK31 => ?_
      refine c_region ?_
      refine s_op (o_move (v := (.pointer (some ⟨sb, 0, none⟩))) rfl ?_)
      refine s_op (o_move (v := (.int .i64 ((svD d 0 h).1))) rfl ?_)
      have hH32 : Has E w29 [([Hp.one sb (.cells #[(.int .i64 ((svD d 0 h).2.1).seq), (.int .i64 ((svD d 0 h).2.1).ep), (.int .i64 ((svD d 0 h).2.1).cut), (.int .i64 ((svD d 0 h).2.1).st), (.int .i64 ((svD d 0 h).2.1).mrk), (.pointer (some ⟨db, 0, none⟩)), (.pointer (some ⟨ab, 0, none⟩)), x7, (.int .i64 v.tail), (.int .i64 v.flushed), (.int .i64 v.res), (.bool v.cut), (.int .i64 v.err)] 175 (0, 0))] ++ s8), [Hp.one b19 (.cells #[(.int .i64 ((svD d 0 h).2.1).seq), (.int .i64 ((svD d 0 h).2.1).ep), (.int .i64 ((svD d 0 h).2.1).cut), (.int .i64 ((svD d 0 h).2.1).st), (.int .i64 ((svD d 0 h).2.1).mrk)] 23 (0, 0))], sg13, [Hp.one pb (.cells #[(.bool ((svD d 0 h).2.2).p.off), (.bool ((svD d 0 h).2.2).p.armed), (.int .i64 ((svD d 0 h).2.2).p.left), (.int .i64 ((svD d 0 h).2.2).p.uses)] 145 (0, 0))], [Hp.one b2 (.cells #[(.int .i64 h.seq), (.int .i64 h.ep), (.int .i64 h.cut), (.int .i64 h.st), (.int .i64 h.mrk)] 23 (0, 0))], [Hp.one ab (.cells #[(.pointer (some ⟨db, 0, none⟩)), (.int .i64 2), (.int .i64 n)] 265 (0, 0))], R] := Has.cl2 ((hH30.front 4 rfl).front 1 rfl)
      have hd33 : StmAt db ab sb ([Hp.one sb (.cells #[(.int .i64 ((svD d 0 h).2.1).seq), (.int .i64 ((svD d 0 h).2.1).ep), (.int .i64 ((svD d 0 h).2.1).cut), (.int .i64 ((svD d 0 h).2.1).st), (.int .i64 ((svD d 0 h).2.1).mrk), (.pointer (some ⟨db, 0, none⟩)), (.pointer (some ⟨ab, 0, none⟩)), x7, (.int .i64 v.tail), (.int .i64 v.flushed), (.int .i64 v.res), (.bool v.cut), (.int .i64 v.err)] 175 (0, 0))] ++ s8) (⟨((svD d 0 h).2.1).seq, ((svD d 0 h).2.1).ep, ((svD d 0 h).2.1).cut, ((svD d 0 h).2.1).st, ((svD d 0 h).2.1).mrk, v.l, v.tail, v.flushed, v.res, v.cut, v.err⟩ : StmS) := StmAt.mk (v := (⟨((svD d 0 h).2.1).seq, ((svD d 0 h).2.1).ep, ((svD d 0 h).2.1).cut, ((svD d 0 h).2.1).st, ((svD d 0 h).2.1).mrk, v.l, v.tail, v.flushed, v.res, v.cut, v.err⟩ : StmS)) f9
      refine s_op (o_callf (vs := #[(.pointer (some ⟨sb, 0, none⟩)), (.int .i64 ((svD d 0 h).1))]) ca109 rfl (args2 rfl rfl) (sstays_c (db := db) (ab := ab) (v := (⟨((svD d 0 h).2.1).seq, ((svD d 0 h).2.1).ep, ((svD d 0 h).2.1).cut, ((svD d 0 h).2.1).st, ((svD d 0 h).2.1).mrk, v.l, v.tail, v.flushed, v.res, v.cut, v.err⟩ : StmS)) (e_ := (svD d 0 h).1) hH32.all1 hd33) ?_)
      rintro _ w38 ⟨sg34, rfl, hd35, hX36⟩
      refine ⟨_, rfl, ?_⟩
      have hH37 : Has E w38 [sg34, [Hp.one b19 (.cells #[(.int .i64 ((svD d 0 h).2.1).seq), (.int .i64 ((svD d 0 h).2.1).ep), (.int .i64 ((svD d 0 h).2.1).cut), (.int .i64 ((svD d 0 h).2.1).st), (.int .i64 ((svD d 0 h).2.1).mrk)] 23 (0, 0))], sg13, [Hp.one pb (.cells #[(.bool ((svD d 0 h).2.2).p.off), (.bool ((svD d 0 h).2.2).p.armed), (.int .i64 ((svD d 0 h).2.2).p.left), (.int .i64 ((svD d 0 h).2.2).p.uses)] 145 (0, 0))], [Hp.one b2 (.cells #[(.int .i64 h.seq), (.int .i64 h.ep), (.int .i64 h.cut), (.int .i64 h.st), (.int .i64 h.mrk)] 23 (0, 0))], [Hp.one ab (.cells #[(.pointer (some ⟨db, 0, none⟩)), (.int .i64 2), (.int .i64 n)] 265 (0, 0))], R] := hX36.of_all1
      refine s_op (o_assign (v := (.int .i64 ((svD d 0 h).1))) rfl ?_)
      refine s_nil ?_
      refine t_norm (hK31 _ _ ?_)
      refine wp_ret ?_
      refine c_ret1 Tryz.results110  (v := (.int .i64 ((svD d 0 h).1))) rfl ?_
      have hH39 : Has E w38 [sg13, [Hp.one pb (.cells #[(.bool ((svD d 0 h).2.2).p.off), (.bool ((svD d 0 h).2.2).p.armed), (.int .i64 ((svD d 0 h).2.2).p.left), (.int .i64 ((svD d 0 h).2.2).p.uses)] 145 (0, 0))], [Hp.one ab (.cells #[(.pointer (some ⟨db, 0, none⟩)), (.int .i64 2), (.int .i64 n)] 265 (0, 0))], sg34, R] := (((((hH37.front 6 rfl).front 1 rfl).front 6 rfl).front 5 rfl).front 5 rfl).first 5 rfl
      have hE_ : (saveS d v h) = (((svD d 0 h).1), (svD d 0 h).2.2, (stays (⟨((svD d 0 h).2.1).seq, ((svD d 0 h).2.1).ep, ((svD d 0 h).2.1).cut, ((svD d 0 h).2.1).st, ((svD d 0 h).2.1).mrk, v.l, v.tail, v.flushed, v.res, v.cut, v.err⟩ : StmS) ((svD d 0 h).1))) := by
        unfold saveS; rw [if_pos h28]; rfl
      exact ⟨_, _, by rw [hE_], by rw [hE_]; exact hd14, by rw [hE_]; exact hd35, by rw [hE_]; exact hH39⟩
    · -- not: (svD d 0 h).1 = 0
      refine wp_skip ?_
      refine t_norm (hK26 _ _ ?_)
      refine wp_seq_k fun K40 hK40 => ?_
      refine c_region ?_
      refine s_op (o_move (v := (.pointer (some ⟨sb, 0, none⟩))) rfl ?_)
      refine s_op (o_move (v := (.int .i64 ((svD d 0 h).1))) rfl ?_)
      have hH41 : Has E w23 [([Hp.one sb (.cells #[(.int .i64 v.seq), (.int .i64 v.ep), (.int .i64 v.hcut), (.int .i64 v.st), (.int .i64 v.mrk), (.pointer (some ⟨db, 0, none⟩)), (.pointer (some ⟨ab, 0, none⟩)), x7, (.int .i64 v.tail), (.int .i64 v.flushed), (.int .i64 v.res), (.bool v.cut), (.int .i64 v.err)] 175 (0, 0))] ++ s8), [Hp.one b19 (.cells #[(.int .i64 ((svD d 0 h).2.1).seq), (.int .i64 ((svD d 0 h).2.1).ep), (.int .i64 ((svD d 0 h).2.1).cut), (.int .i64 ((svD d 0 h).2.1).st), (.int .i64 ((svD d 0 h).2.1).mrk)] 23 (0, 0))], sg13, [Hp.one pb (.cells #[(.bool ((svD d 0 h).2.2).p.off), (.bool ((svD d 0 h).2.2).p.armed), (.int .i64 ((svD d 0 h).2.2).p.left), (.int .i64 ((svD d 0 h).2.2).p.uses)] 145 (0, 0))], [Hp.one b2 (.cells #[(.int .i64 h.seq), (.int .i64 h.ep), (.int .i64 h.cut), (.int .i64 h.st), (.int .i64 h.mrk)] 23 (0, 0))], [Hp.one ab (.cells #[(.pointer (some ⟨db, 0, none⟩)), (.int .i64 2), (.int .i64 n)] 265 (0, 0))], R] := Has.cl2 ((hH24.front 4 rfl).front 4 rfl)
      have hd42 : StmAt db ab sb ([Hp.one sb (.cells #[(.int .i64 v.seq), (.int .i64 v.ep), (.int .i64 v.hcut), (.int .i64 v.st), (.int .i64 v.mrk), (.pointer (some ⟨db, 0, none⟩)), (.pointer (some ⟨ab, 0, none⟩)), x7, (.int .i64 v.tail), (.int .i64 v.flushed), (.int .i64 v.res), (.bool v.cut), (.int .i64 v.err)] 175 (0, 0))] ++ s8) v := StmAt.mk (v := v) f9
      refine s_op (o_callf (vs := #[(.pointer (some ⟨sb, 0, none⟩)), (.int .i64 ((svD d 0 h).1))]) ca109 rfl (args2 rfl rfl) (sstays_c (db := db) (ab := ab) (v := v) (e_ := (svD d 0 h).1) hH41.all1 hd42) ?_)
      rintro _ w47 ⟨sg43, rfl, hd44, hX45⟩
      refine ⟨_, rfl, ?_⟩
      have hH46 : Has E w47 [sg43, [Hp.one b19 (.cells #[(.int .i64 ((svD d 0 h).2.1).seq), (.int .i64 ((svD d 0 h).2.1).ep), (.int .i64 ((svD d 0 h).2.1).cut), (.int .i64 ((svD d 0 h).2.1).st), (.int .i64 ((svD d 0 h).2.1).mrk)] 23 (0, 0))], sg13, [Hp.one pb (.cells #[(.bool ((svD d 0 h).2.2).p.off), (.bool ((svD d 0 h).2.2).p.armed), (.int .i64 ((svD d 0 h).2.2).p.left), (.int .i64 ((svD d 0 h).2.2).p.uses)] 145 (0, 0))], [Hp.one b2 (.cells #[(.int .i64 h.seq), (.int .i64 h.ep), (.int .i64 h.cut), (.int .i64 h.st), (.int .i64 h.mrk)] 23 (0, 0))], [Hp.one ab (.cells #[(.pointer (some ⟨db, 0, none⟩)), (.int .i64 2), (.int .i64 n)] 265 (0, 0))], R] := hX45.of_all1
      refine s_op (o_assign (v := (.int .i64 ((svD d 0 h).1))) rfl ?_)
      refine s_nil ?_
      refine t_norm (hK40 _ _ ?_)
      refine wp_ret ?_
      refine c_ret1 Tryz.results110  (v := (.int .i64 ((svD d 0 h).1))) rfl ?_
      have hH48 : Has E w47 [sg13, [Hp.one pb (.cells #[(.bool ((svD d 0 h).2.2).p.off), (.bool ((svD d 0 h).2.2).p.armed), (.int .i64 ((svD d 0 h).2.2).p.left), (.int .i64 ((svD d 0 h).2.2).p.uses)] 145 (0, 0))], [Hp.one ab (.cells #[(.pointer (some ⟨db, 0, none⟩)), (.int .i64 2), (.int .i64 n)] 265 (0, 0))], sg43, R] := (((((hH46.front 6 rfl).front 1 rfl).front 6 rfl).front 5 rfl).front 5 rfl).first 5 rfl
      have hE_ : (saveS d v h) = (((svD d 0 h).1), (svD d 0 h).2.2, (stays v ((svD d 0 h).1))) := by
        unfold saveS; rw [if_neg h28]
      exact ⟨_, _, by rw [hE_], by rw [hE_]; exact hd14, by rw [hE_]; exact hd44, by rw [hE_]; exact hH48⟩
  · -- first operation 9
    have hH49 : Has E { w3 with drawn := w3.drawn + 1 } [[Hp.one sb (.cells #[(.int .i64 v.seq), (.int .i64 v.ep), (.int .i64 v.hcut), (.int .i64 v.st), (.int .i64 v.mrk), (.pointer (some ⟨db, 0, none⟩)), (.pointer (some ⟨ab, 0, none⟩)), x7, (.int .i64 v.tail), (.int .i64 v.flushed), (.int .i64 v.res), (.bool v.cut), (.int .i64 v.err)] 175 (0, 0))], [Hp.one b2 (.cells #[(.int .i64 h.seq), (.int .i64 h.ep), (.int .i64 h.cut), (.int .i64 h.st), (.int .i64 h.mrk)] 23 (0, 0))]] := ((hH10.front 2 rfl).front 1 rfl).first 2 rfl
    refine ok_w 9 rfl (o_alloc (cs := #[(.int .i64 0), (.int .i64 0), (.int .i64 0), (.int .i64 0), (.int .i64 0)]) ti23 rfl hH10 fun b50 w51 hH52 => ?_)
    have hH53 : Has E w51 [[Hp.one sb (.cells #[(.int .i64 v.seq), (.int .i64 v.ep), (.int .i64 v.hcut), (.int .i64 v.st), (.int .i64 v.mrk), (.pointer (some ⟨db, 0, none⟩)), (.pointer (some ⟨ab, 0, none⟩)), x7, (.int .i64 v.tail), (.int .i64 v.flushed), (.int .i64 v.res), (.bool v.cut), (.int .i64 v.err)] 175 (0, 0))], [Hp.one b2 (.cells #[(.int .i64 h.seq), (.int .i64 h.ep), (.int .i64 h.cut), (.int .i64 h.st), (.int .i64 h.mrk)] 23 (0, 0))]] := ((hH52.front 3 rfl).front 2 rfl).first 2 rfl
    refine a_w 5 rfl (by kernel_rfl) hH53 (o_callf (vs := #[(.pointer (some ⟨db, 0, none⟩)), (.int .i64 0), (.agg #[(.int .i64 h.seq), (.int .i64 h.ep), (.int .i64 h.cut), (.int .i64 h.st), (.int .i64 h.mrk)])]) ca123 rfl (args3 rfl rfl rfl) (hsv_c (d := d) ((hH52.front 5 rfl).front 5 rfl).all2 hd hf (by omega) hlk h4 (hg.mono (seg_sub 5 rfl)) 0 (h := h)) ?_)
    rintro _ w58 ⟨sg54, rfl, hd55, hX56⟩
    refine ⟨_, rfl, ?_⟩
    have hH57 : Has E w58 [sg54, [Hp.one pb (.cells #[(.bool ((svD d 0 h).2.2).p.off), (.bool ((svD d 0 h).2.2).p.armed), (.int .i64 ((svD d 0 h).2.2).p.left), (.int .i64 ((svD d 0 h).2.2).p.uses)] 145 (0, 0))], [Hp.one b50 (.cells #[(.int .i64 0), (.int .i64 0), (.int .i64 0), (.int .i64 0), (.int .i64 0)] 23 (0, 0))], [Hp.one sb (.cells #[(.int .i64 v.seq), (.int .i64 v.ep), (.int .i64 v.hcut), (.int .i64 v.st), (.int .i64 v.mrk), (.pointer (some ⟨db, 0, none⟩)), (.pointer (some ⟨ab, 0, none⟩)), x7, (.int .i64 v.tail), (.int .i64 v.flushed), (.int .i64 v.res), (.bool v.cut), (.int .i64 v.err)] 175 (0, 0))], s8, [Hp.one b2 (.cells #[(.int .i64 h.seq), (.int .i64 h.ep), (.int .i64 h.cut), (.int .i64 h.st), (.int .i64 h.mrk)] 23 (0, 0))], [Hp.one ab (.cells #[(.pointer (some ⟨db, 0, none⟩)), (.int .i64 2), (.int .i64 n)] 265 (0, 0))], R] := hX56.of_all2
    refine a_op 6 rfl (by kernel_rfl) (fun w_ h_ => o_move (v := (.tuple #[(.agg #[(.int .i64 ((svD d 0 h).2.1).seq), (.int .i64 ((svD d 0 h).2.1).ep), (.int .i64 ((svD d 0 h).2.1).cut), (.int .i64 ((svD d 0 h).2.1).st), (.int .i64 ((svD d 0 h).2.1).mrk)]), (.int .i64 ((svD d 0 h).1))])) rfl ⟨rfl, rfl⟩) ?_
    refine a_op 7 rfl (by kernel_rfl) (fun w_ h_ => o_extract (v := (.agg #[(.int .i64 ((svD d 0 h).2.1).seq), (.int .i64 ((svD d 0 h).2.1).ep), (.int .i64 ((svD d 0 h).2.1).cut), (.int .i64 ((svD d 0 h).2.1).st), (.int .i64 ((svD d 0 h).2.1).mrk)])) rfl rfl ⟨rfl, rfl⟩) ?_
    refine a_op 8 rfl (by kernel_rfl) (fun w_ h_ => o_extract (v := (.int .i64 ((svD d 0 h).1))) rfl rfl ⟨rfl, rfl⟩) ?_
    have hH59 : Has E w58 [[Hp.one sb (.cells #[(.int .i64 v.seq), (.int .i64 v.ep), (.int .i64 v.hcut), (.int .i64 v.st), (.int .i64 v.mrk), (.pointer (some ⟨db, 0, none⟩)), (.pointer (some ⟨ab, 0, none⟩)), x7, (.int .i64 v.tail), (.int .i64 v.flushed), (.int .i64 v.res), (.bool v.cut), (.int .i64 v.err)] 175 (0, 0))], [Hp.one b2 (.cells #[(.int .i64 h.seq), (.int .i64 h.ep), (.int .i64 h.cut), (.int .i64 h.st), (.int .i64 h.mrk)] 23 (0, 0))]] := ((hH57.front 5 rfl).front 4 rfl).first 2 rfl
    refine a_we 10 rfl (by kernel_rfl) hH59 (o_storeN (vs := [(.int .i64 ((svD d 0 h).2.1).seq), (.int .i64 ((svD d 0 h).2.1).ep), (.int .i64 ((svD d 0 h).2.1).cut), (.int .i64 ((svD d 0 h).2.1).st), (.int .i64 ((svD d 0 h).2.1).mrk)]) (c' := #[(.int .i64 ((svD d 0 h).2.1).seq), (.int .i64 ((svD d 0 h).2.1).ep), (.int .i64 ((svD d 0 h).2.1).cut), (.int .i64 ((svD d 0 h).2.1).st), (.int .i64 ((svD d 0 h).2.1).mrk)]) ti23 rfl rfl rfl rfl (by intro u hu; simp only [List.mem_cons, List.not_mem_nil, or_false] at hu; rcases hu with rfl | rfl | rfl | rfl | rfl <;> first | rfl) (by simp) (by kernel_rfl) (hH57.front 2 rfl) fun w60 hH61 => ?_)
    have hH62 : Has E w60 [[Hp.one sb (.cells #[(.int .i64 v.seq), (.int .i64 v.ep), (.int .i64 v.hcut), (.int .i64 v.st), (.int .i64 v.mrk), (.pointer (some ⟨db, 0, none⟩)), (.pointer (some ⟨ab, 0, none⟩)), x7, (.int .i64 v.tail), (.int .i64 v.flushed), (.int .i64 v.res), (.bool v.cut), (.int .i64 v.err)] 175 (0, 0))], [Hp.one b2 (.cells #[(.int .i64 h.seq), (.int .i64 h.ep), (.int .i64 h.cut), (.int .i64 h.st), (.int .i64 h.mrk)] 23 (0, 0))]] := ((hH61.front 5 rfl).front 4 rfl).first 2 rfl
    refine a_done (by kernel_rfl) hH62 ?_
    refine r_op 11 rfl (by kernel_rfl) (o_assign (v := (.int .i64 ((svD d 0 h).1))) rfl ?_)
    refine Rest.done (by kernel_rfl) ?_
    refine t_norm (hK5 _ _ ?_)
    refine wp_seq_k fun K63 hK63 => ?_
    refine wp_seq_k fun K64 hK64 => ?_
    refine c_region ?_
    refine s_op (o_move (v := (.int .i64 ((svD d 0 h).1))) rfl ?_)
    refine s_op (o_eql (a := (svD d 0 h).1) (b := 0) rfl rfl ?_)
    refine s_nil ?_
    refine t_norm (hK64 _ _ ?_)
    refine c_cond rfl (fun h65 => ?_) (fun h65 => ?_)
    · -- (svD d 0 h).1 = 0
      refine c_region ?_
      refine s_op (o_move (v := (.pointer (some ⟨sb, 0, none⟩))) rfl ?_)
      refine s_op (o_loadN (cs := [(.int .i64 ((svD d 0 h).2.1).seq), (.int .i64 ((svD d 0 h).2.1).ep), (.int .i64 ((svD d 0 h).2.1).cut), (.int .i64 ((svD d 0 h).2.1).st), (.int .i64 ((svD d 0 h).2.1).mrk)]) Tryz.underlying23 rfl ti23 rfl hH61 (seg_sub 0 rfl) (CellsAt.one rfl) ?_)
      refine s_op (o_sight (v := (.agg #[(.int .i64 ((svD d 0 h).2.1).seq), (.int .i64 ((svD d 0 h).2.1).ep), (.int .i64 ((svD d 0 h).2.1).cut), (.int .i64 ((svD d 0 h).2.1).st), (.int .i64 ((svD d 0 h).2.1).mrk)])) (fun _ => by kernel_rfl) ?_)
      refine s_op (o_nilCheck rfl ?_)
      refine s_op (o_fieldAddr (k := 0) (fun _ => by kernel_rfl) rfl ?_)
      refine s_eff (o_storeN (vs := [(.int .i64 ((svD d 0 h).2.1).seq), (.int .i64 ((svD d 0 h).2.1).ep), (.int .i64 ((svD d 0 h).2.1).cut), (.int .i64 ((svD d 0 h).2.1).st), (.int .i64 ((svD d 0 h).2.1).mrk)]) (c' := #[(.int .i64 ((svD d 0 h).2.1).seq), (.int .i64 ((svD d 0 h).2.1).ep), (.int .i64 ((svD d 0 h).2.1).cut), (.int .i64 ((svD d 0 h).2.1).st), (.int .i64 ((svD d 0 h).2.1).mrk), (.pointer (some ⟨db, 0, none⟩)), (.pointer (some ⟨ab, 0, none⟩)), x7, (.int .i64 v.tail), (.int .i64 v.flushed), (.int .i64 v.res), (.bool v.cut), (.int .i64 v.err)]) ti173 rfl rfl rfl rfl (by intro u hu; simp only [List.mem_cons, List.not_mem_nil, or_false] at hu; rcases hu with rfl | rfl | rfl | rfl | rfl <;> first | rfl) (by simp) (by kernel_rfl) (hH61.front 3 rfl) fun w66 hH67 => ?_)
      refine s_nil ?_
      refine t_norm (hK63 _ _ ?_)
      refine wp_seq_k fun K68 hK68 => ?_
      refine c_region ?_
      refine s_op (o_move (v := (.pointer (some ⟨sb, 0, none⟩))) rfl ?_)
      refine s_op (o_move (v := (.int .i64 ((svD d 0 h).1))) rfl ?_)
      have hH69 : Has E w66 [([Hp.one sb (.cells #[(.int .i64 ((svD d 0 h).2.1).seq), (.int .i64 ((svD d 0 h).2.1).ep), (.int .i64 ((svD d 0 h).2.1).cut), (.int .i64 ((svD d 0 h).2.1).st), (.int .i64 ((svD d 0 h).2.1).mrk), (.pointer (some ⟨db, 0, none⟩)), (.pointer (some ⟨ab, 0, none⟩)), x7, (.int .i64 v.tail), (.int .i64 v.flushed), (.int .i64 v.res), (.bool v.cut), (.int .i64 v.err)] 175 (0, 0))] ++ s8), [Hp.one b50 (.cells #[(.int .i64 ((svD d 0 h).2.1).seq), (.int .i64 ((svD d 0 h).2.1).ep), (.int .i64 ((svD d 0 h).2.1).cut), (.int .i64 ((svD d 0 h).2.1).st), (.int .i64 ((svD d 0 h).2.1).mrk)] 23 (0, 0))], sg54, [Hp.one pb (.cells #[(.bool ((svD d 0 h).2.2).p.off), (.bool ((svD d 0 h).2.2).p.armed), (.int .i64 ((svD d 0 h).2.2).p.left), (.int .i64 ((svD d 0 h).2.2).p.uses)] 145 (0, 0))], [Hp.one b2 (.cells #[(.int .i64 h.seq), (.int .i64 h.ep), (.int .i64 h.cut), (.int .i64 h.st), (.int .i64 h.mrk)] 23 (0, 0))], [Hp.one ab (.cells #[(.pointer (some ⟨db, 0, none⟩)), (.int .i64 2), (.int .i64 n)] 265 (0, 0))], R] := Has.cl2 ((hH67.front 4 rfl).front 1 rfl)
      have hd70 : StmAt db ab sb ([Hp.one sb (.cells #[(.int .i64 ((svD d 0 h).2.1).seq), (.int .i64 ((svD d 0 h).2.1).ep), (.int .i64 ((svD d 0 h).2.1).cut), (.int .i64 ((svD d 0 h).2.1).st), (.int .i64 ((svD d 0 h).2.1).mrk), (.pointer (some ⟨db, 0, none⟩)), (.pointer (some ⟨ab, 0, none⟩)), x7, (.int .i64 v.tail), (.int .i64 v.flushed), (.int .i64 v.res), (.bool v.cut), (.int .i64 v.err)] 175 (0, 0))] ++ s8) (⟨((svD d 0 h).2.1).seq, ((svD d 0 h).2.1).ep, ((svD d 0 h).2.1).cut, ((svD d 0 h).2.1).st, ((svD d 0 h).2.1).mrk, v.l, v.tail, v.flushed, v.res, v.cut, v.err⟩ : StmS) := StmAt.mk (v := (⟨((svD d 0 h).2.1).seq, ((svD d 0 h).2.1).ep, ((svD d 0 h).2.1).cut, ((svD d 0 h).2.1).st, ((svD d 0 h).2.1).mrk, v.l, v.tail, v.flushed, v.res, v.cut, v.err⟩ : StmS)) f9
      refine s_op (o_callf (vs := #[(.pointer (some ⟨sb, 0, none⟩)), (.int .i64 ((svD d 0 h).1))]) ca109 rfl (args2 rfl rfl) (sstays_c (db := db) (ab := ab) (v := (⟨((svD d 0 h).2.1).seq, ((svD d 0 h).2.1).ep, ((svD d 0 h).2.1).cut, ((svD d 0 h).2.1).st, ((svD d 0 h).2.1).mrk, v.l, v.tail, v.flushed, v.res, v.cut, v.err⟩ : StmS)) (e_ := (svD d 0 h).1) hH69.all1 hd70) ?_)
      rintro _ w75 ⟨sg71, rfl, hd72, hX73⟩
      refine ⟨_, rfl, ?_⟩
      have hH74 : Has E w75 [sg71, [Hp.one b50 (.cells #[(.int .i64 ((svD d 0 h).2.1).seq), (.int .i64 ((svD d 0 h).2.1).ep), (.int .i64 ((svD d 0 h).2.1).cut), (.int .i64 ((svD d 0 h).2.1).st), (.int .i64 ((svD d 0 h).2.1).mrk)] 23 (0, 0))], sg54, [Hp.one pb (.cells #[(.bool ((svD d 0 h).2.2).p.off), (.bool ((svD d 0 h).2.2).p.armed), (.int .i64 ((svD d 0 h).2.2).p.left), (.int .i64 ((svD d 0 h).2.2).p.uses)] 145 (0, 0))], [Hp.one b2 (.cells #[(.int .i64 h.seq), (.int .i64 h.ep), (.int .i64 h.cut), (.int .i64 h.st), (.int .i64 h.mrk)] 23 (0, 0))], [Hp.one ab (.cells #[(.pointer (some ⟨db, 0, none⟩)), (.int .i64 2), (.int .i64 n)] 265 (0, 0))], R] := hX73.of_all1
      refine s_op (o_assign (v := (.int .i64 ((svD d 0 h).1))) rfl ?_)
      refine s_nil ?_
      refine t_norm (hK68 _ _ ?_)
      refine wp_ret ?_
      refine c_ret1 Tryz.results110  (v := (.int .i64 ((svD d 0 h).1))) rfl ?_
      have hH76 : Has E w75 [sg54, [Hp.one pb (.cells #[(.bool ((svD d 0 h).2.2).p.off), (.bool ((svD d 0 h).2.2).p.armed), (.int .i64 ((svD d 0 h).2.2).p.left), (.int .i64 ((svD d 0 h).2.2).p.uses)] 145 (0, 0))], [Hp.one ab (.cells #[(.pointer (some ⟨db, 0, none⟩)), (.int .i64 2), (.int .i64 n)] 265 (0, 0))], sg71, R] := (((((hH74.front 6 rfl).front 1 rfl).front 6 rfl).front 5 rfl).front 5 rfl).first 5 rfl
      have hE_ : (saveS d v h) = (((svD d 0 h).1), (svD d 0 h).2.2, (stays (⟨((svD d 0 h).2.1).seq, ((svD d 0 h).2.1).ep, ((svD d 0 h).2.1).cut, ((svD d 0 h).2.1).st, ((svD d 0 h).2.1).mrk, v.l, v.tail, v.flushed, v.res, v.cut, v.err⟩ : StmS) ((svD d 0 h).1))) := by
        unfold saveS; rw [if_pos h65]; rfl
      exact ⟨_, _, by rw [hE_], by rw [hE_]; exact hd55, by rw [hE_]; exact hd72, by rw [hE_]; exact hH76⟩
    · -- not: (svD d 0 h).1 = 0
      refine wp_skip ?_
      refine t_norm (hK63 _ _ ?_)
      refine wp_seq_k fun K77 hK77 => ?_
      refine c_region ?_
      refine s_op (o_move (v := (.pointer (some ⟨sb, 0, none⟩))) rfl ?_)
      refine s_op (o_move (v := (.int .i64 ((svD d 0 h).1))) rfl ?_)
      have hH78 : Has E w60 [([Hp.one sb (.cells #[(.int .i64 v.seq), (.int .i64 v.ep), (.int .i64 v.hcut), (.int .i64 v.st), (.int .i64 v.mrk), (.pointer (some ⟨db, 0, none⟩)), (.pointer (some ⟨ab, 0, none⟩)), x7, (.int .i64 v.tail), (.int .i64 v.flushed), (.int .i64 v.res), (.bool v.cut), (.int .i64 v.err)] 175 (0, 0))] ++ s8), [Hp.one b50 (.cells #[(.int .i64 ((svD d 0 h).2.1).seq), (.int .i64 ((svD d 0 h).2.1).ep), (.int .i64 ((svD d 0 h).2.1).cut), (.int .i64 ((svD d 0 h).2.1).st), (.int .i64 ((svD d 0 h).2.1).mrk)] 23 (0, 0))], sg54, [Hp.one pb (.cells #[(.bool ((svD d 0 h).2.2).p.off), (.bool ((svD d 0 h).2.2).p.armed), (.int .i64 ((svD d 0 h).2.2).p.left), (.int .i64 ((svD d 0 h).2.2).p.uses)] 145 (0, 0))], [Hp.one b2 (.cells #[(.int .i64 h.seq), (.int .i64 h.ep), (.int .i64 h.cut), (.int .i64 h.st), (.int .i64 h.mrk)] 23 (0, 0))], [Hp.one ab (.cells #[(.pointer (some ⟨db, 0, none⟩)), (.int .i64 2), (.int .i64 n)] 265 (0, 0))], R] := Has.cl2 ((hH61.front 4 rfl).front 4 rfl)
      have hd79 : StmAt db ab sb ([Hp.one sb (.cells #[(.int .i64 v.seq), (.int .i64 v.ep), (.int .i64 v.hcut), (.int .i64 v.st), (.int .i64 v.mrk), (.pointer (some ⟨db, 0, none⟩)), (.pointer (some ⟨ab, 0, none⟩)), x7, (.int .i64 v.tail), (.int .i64 v.flushed), (.int .i64 v.res), (.bool v.cut), (.int .i64 v.err)] 175 (0, 0))] ++ s8) v := StmAt.mk (v := v) f9
      refine s_op (o_callf (vs := #[(.pointer (some ⟨sb, 0, none⟩)), (.int .i64 ((svD d 0 h).1))]) ca109 rfl (args2 rfl rfl) (sstays_c (db := db) (ab := ab) (v := v) (e_ := (svD d 0 h).1) hH78.all1 hd79) ?_)
      rintro _ w84 ⟨sg80, rfl, hd81, hX82⟩
      refine ⟨_, rfl, ?_⟩
      have hH83 : Has E w84 [sg80, [Hp.one b50 (.cells #[(.int .i64 ((svD d 0 h).2.1).seq), (.int .i64 ((svD d 0 h).2.1).ep), (.int .i64 ((svD d 0 h).2.1).cut), (.int .i64 ((svD d 0 h).2.1).st), (.int .i64 ((svD d 0 h).2.1).mrk)] 23 (0, 0))], sg54, [Hp.one pb (.cells #[(.bool ((svD d 0 h).2.2).p.off), (.bool ((svD d 0 h).2.2).p.armed), (.int .i64 ((svD d 0 h).2.2).p.left), (.int .i64 ((svD d 0 h).2.2).p.uses)] 145 (0, 0))], [Hp.one b2 (.cells #[(.int .i64 h.seq), (.int .i64 h.ep), (.int .i64 h.cut), (.int .i64 h.st), (.int .i64 h.mrk)] 23 (0, 0))], [Hp.one ab (.cells #[(.pointer (some ⟨db, 0, none⟩)), (.int .i64 2), (.int .i64 n)] 265 (0, 0))], R] := hX82.of_all1
      refine s_op (o_assign (v := (.int .i64 ((svD d 0 h).1))) rfl ?_)
      refine s_nil ?_
      refine t_norm (hK77 _ _ ?_)
      refine wp_ret ?_
      refine c_ret1 Tryz.results110  (v := (.int .i64 ((svD d 0 h).1))) rfl ?_
      have hH85 : Has E w84 [sg54, [Hp.one pb (.cells #[(.bool ((svD d 0 h).2.2).p.off), (.bool ((svD d 0 h).2.2).p.armed), (.int .i64 ((svD d 0 h).2.2).p.left), (.int .i64 ((svD d 0 h).2.2).p.uses)] 145 (0, 0))], [Hp.one ab (.cells #[(.pointer (some ⟨db, 0, none⟩)), (.int .i64 2), (.int .i64 n)] 265 (0, 0))], sg80, R] := (((((hH83.front 6 rfl).front 1 rfl).front 6 rfl).front 5 rfl).front 5 rfl).first 5 rfl
      have hE_ : (saveS d v h) = (((svD d 0 h).1), (svD d 0 h).2.2, (stays v ((svD d 0 h).1))) := by
        unfold saveS; rw [if_neg h65]
      exact ⟨_, _, by rw [hE_], by rw [hE_]; exact hd55, by rw [hE_]; exact hd81, by rw [hE_]; exact hH85⟩
end Go.Q
namespace Go.Q
open Go.Proofs
set_option linter.unusedVariables false
set_option maxRecDepth 100000
attribute [local irreducible] wpList OK Code.wp
set_option maxHeartbeats 4000000 in
theorem scut_nil {E w : World} {R : List Hp}  {m : Int}  (hH : Has E w [R]) :
    Calls Tryz.prog 28 #[(.pointer none), (.int .i64 m)] w fun e w' => e = .returned (.int .i64 1) ∧ Has E w' [R] := by
  refine c_enter (args := [(.pointer none), (.int .i64 m)]) Tryz.func28 rfl Tryz.ntmps28 (by simp) ?_
  refine wp_seq_k fun K1 hK1 => ?_
  refine c_region ?_
  refine s_op (o_assign (v := (.int .i64 0)) rfl ?_)
  refine s_nil ?_
  refine t_norm (hK1 _ _ ?_)
  refine wp_seq_k fun K2 hK2 => ?_
  refine wp_seq_k fun K3 hK3 => ?_
  refine c_region ?_
  refine s_op (o_move (v := (.pointer none)) rfl ?_)
  refine s_op (o_callf (vs := #[(.pointer none)]) ca39 rfl (args1 rfl) (serr_nil hH.all ) ?_)
  rintro _ w6 ⟨rfl, hX4⟩
  refine ⟨_, rfl, ?_⟩
  have hH5 := hX4.of_all
  refine s_op (o_assign (v := (.int .i64 1)) rfl ?_)
  refine s_nil ?_
  refine t_norm (hK3 _ _ ?_)
  refine wp_seq_k fun K7 hK7 => ?_
  refine c_region ?_
  refine s_op (o_move (v := (.int .i64 1)) rfl ?_)
  refine s_op (o_neq (a := 1) (b := 0) rfl rfl ?_)
  refine s_nil ?_
  refine t_norm (hK7 _ _ ?_)
  refine c_cond rfl (fun h8 => ?_) (fun h8 => ?_)
  · -- (1 : Int) ≠ (0 : Int)
    refine wp_seq_k fun K9 hK9 => ?_
    refine c_region ?_
    refine s_op (o_move (v := (.int .i64 1)) rfl ?_)
    refine s_op (o_assign (v := (.int .i64 1)) rfl ?_)
    refine s_nil ?_
    refine t_norm (hK9 _ _ ?_)
    refine wp_ret ?_
    refine t_ret (c_ret1 Tryz.results28  (v := (.int .i64 1)) rfl ?_)
    exact ⟨rfl, hH5⟩
  · -- not: (1 : Int) ≠ (0 : Int)
    exact absurd h8 (by decide)
set_option maxHeartbeats 4000000 in
theorem sflush_nil {E w : World} {R : List Hp}  {m : Int}  (hH : Has E w [R]) :
    Calls Tryz.prog 23 #[(.pointer none), (.int .i64 m)] w fun e w' => e = .returned (.int .i64 1) ∧ Has E w' [R] := by
  refine c_enter (args := [(.pointer none), (.int .i64 m)]) Tryz.func23 rfl Tryz.ntmps23 (by simp) ?_
  refine wp_seq_k fun K1 hK1 => ?_
  refine c_region ?_
  refine s_op (o_assign (v := (.int .i64 0)) rfl ?_)
  refine s_nil ?_
  refine t_norm (hK1 _ _ ?_)
  refine wp_seq_k fun K2 hK2 => ?_
  refine wp_seq_k fun K3 hK3 => ?_
  refine c_region ?_
  refine s_op (o_move (v := (.pointer none)) rfl ?_)
  refine s_op (o_callf (vs := #[(.pointer none)]) ca106 rfl (args1 rfl) (sready_nil hH.all ) ?_)
  rintro _ w6 ⟨rfl, hX4⟩
  refine ⟨_, rfl, ?_⟩
  have hH5 := hX4.of_all
  refine s_op (o_assign (v := (.int .i64 1)) rfl ?_)
  refine s_nil ?_
  refine t_norm (hK3 _ _ ?_)
  refine wp_seq_k fun K7 hK7 => ?_
  refine c_region ?_
  refine s_op (o_move (v := (.int .i64 1)) rfl ?_)
  refine s_op (o_neq (a := 1) (b := 0) rfl rfl ?_)
  refine s_nil ?_
  refine t_norm (hK7 _ _ ?_)
  refine c_cond rfl (fun h8 => ?_) (fun h8 => ?_)
  · -- (1 : Int) ≠ (0 : Int)
    refine wp_seq_k fun K9 hK9 => ?_
    refine c_region ?_
    refine s_op (o_move (v := (.int .i64 1)) rfl ?_)
    refine s_op (o_assign (v := (.int .i64 1)) rfl ?_)
    refine s_nil ?_
    refine t_norm (hK9 _ _ ?_)
    refine wp_ret ?_
    refine t_ret (c_ret1 Tryz.results23  (v := (.int .i64 1)) rfl ?_)
    exact ⟨rfl, hH5⟩
  · -- not: (1 : Int) ≠ (0 : Int)
    exact absurd h8 (by decide)
set_option maxHeartbeats 4000000 in
theorem sforget_nil {E w : World} {R : List Hp}  {m : Int}  (hH : Has E w [R]) :
    Calls Tryz.prog 36 #[(.pointer none), (.int .i64 m)] w fun e w' => e = .returned (.int .i64 1) ∧ Has E w' [R] := by
  refine c_enter (args := [(.pointer none), (.int .i64 m)]) Tryz.func36 rfl Tryz.ntmps36 (by simp) ?_
  refine wp_seq_k fun K1 hK1 => ?_
  refine c_region ?_
  refine s_op (o_assign (v := (.int .i64 0)) rfl ?_)
  refine s_nil ?_
  refine t_norm (hK1 _ _ ?_)
  refine wp_seq_k fun K2 hK2 => ?_
  refine wp_seq_k fun K3 hK3 => ?_
  refine c_region ?_
  refine s_op (o_move (v := (.pointer none)) rfl ?_)
  refine s_op (o_callf (vs := #[(.pointer none)]) ca106 rfl (args1 rfl) (sready_nil hH.all ) ?_)
  rintro _ w6 ⟨rfl, hX4⟩
  refine ⟨_, rfl, ?_⟩
  have hH5 := hX4.of_all
  refine s_op (o_assign (v := (.int .i64 1)) rfl ?_)
  refine s_nil ?_
  refine t_norm (hK3 _ _ ?_)
  refine wp_seq_k fun K7 hK7 => ?_
  refine c_region ?_
  refine s_op (o_move (v := (.int .i64 1)) rfl ?_)
  refine s_op (o_neq (a := 1) (b := 0) rfl rfl ?_)
  refine s_nil ?_
  refine t_norm (hK7 _ _ ?_)
  refine c_cond rfl (fun h8 => ?_) (fun h8 => ?_)
  · -- (1 : Int) ≠ (0 : Int)
    refine wp_seq_k fun K9 hK9 => ?_
    refine c_region ?_
    refine s_op (o_move (v := (.int .i64 1)) rfl ?_)
    refine s_op (o_assign (v := (.int .i64 1)) rfl ?_)
    refine s_nil ?_
    refine t_norm (hK9 _ _ ?_)
    refine wp_ret ?_
    refine t_ret (c_ret1 Tryz.results36  (v := (.int .i64 1)) rfl ?_)
    exact ⟨rfl, hH5⟩
  · -- not: (1 : Int) ≠ (0 : Int)
    exact absurd h8 (by decide)
end Go.Q
namespace Go.Q
open Go.Proofs
set_option linter.unusedVariables false
set_option maxRecDepth 100000
attribute [local irreducible] wpList OK Code.wp
end Go.Q
namespace Go.Q
open Go.Proofs
set_option linter.unusedVariables false
set_option maxRecDepth 100000
attribute [local irreducible] wpList OK Code.wp
end Go.Q
namespace Go.Q
open Go.Proofs
set_option linter.unusedVariables false
set_option maxRecDepth 100000
attribute [local irreducible] wpList OK Code.wp
set_option maxHeartbeats 4000000 in
theorem anew_c {E w : World} {R sg : List Hp} {db pb : Nat} {p : Pw} {la : List Bs} {lo : List (Int × Bs)} (hH : Has E w [sg, [Hp.one pb (.cells #[(.bool p.off), (.bool p.armed), (.int .i64 p.left), (.int .i64 p.uses)] 145 (0, 0))], R]) (hd : DevAt pb sg db la lo) {fr n : Int} (hfr : 0 ≤ fr) (hn : 1 ≤ n) (hfn : fr + n ≤ la.length) (hla : la.length ≤ 4096) :
    Calls Tryz.prog 268 #[(.pointer (some ⟨db, 0, none⟩)), (.int .i64 fr), (.int .i64 n)] w fun e w' => ∃ ab, e = .returned (.pointer (some ⟨ab, 0, none⟩)) ∧ Has E w' [[Hp.one ab (.cells #[(.pointer (some ⟨db, 0, none⟩)), (.int .i64 fr), (.int .i64 n)] 265 (0, 0))], sg, [Hp.one pb (.cells #[(.bool p.off), (.bool p.armed), (.int .i64 p.left), (.int .i64 p.uses)] 145 (0, 0))], R] := by
  refine c_enter (args := [(.pointer (some ⟨db, 0, none⟩)), (.int .i64 fr), (.int .i64 n)]) Tryz.func268 rfl Tryz.ntmps268 (by simp) ?_
  refine wp_seq_k fun K1 hK1 => ?_
  refine c_region ?_
  refine s_op (o_assign (v := (.pointer none)) rfl ?_)
  refine s_nil ?_
  refine t_norm (hK1 _ _ ?_)
  refine wp_seq_k fun K2 hK2 => ?_
  refine wp_seq_k fun K3 hK3 => ?_
  refine c_region ?_
  refine s_op (o_move (v := (.int .i64 fr)) rfl ?_)
  refine s_op (o_lss (a := fr) (b := 0) rfl rfl ?_)
  refine s_op (o_move (v := (.bool (decide (fr < 0)))) rfl ?_)
  by_cases h4 : fr < 0
  · -- fr < 0
    exfalso; omega
  · -- not: fr < 0
    refine s_on 9 rfl (congrArg Value.bool (decide_eq_false h4)) (o_move (v := (.int .i64 n)) rfl ?_)
    refine s_on 9 rfl (congrArg Value.bool (decide_eq_false h4)) (o_lss (a := n) (b := 1) rfl rfl ?_)
    refine s_op (o_pick_f (u := (.bool (decide (n < 1)))) ((rfl : _ = _).trans (congrArg Value.bool (decide_eq_false h4))) rfl ?_)
    refine s_op (o_move (v := (.bool (decide (n < 1)))) rfl ?_)
    by_cases h5 : n < 1
    · -- n < 1
      exfalso; omega
    · -- not: n < 1
      refine s_on 13 rfl (congrArg Value.bool (decide_eq_false h5)) (o_move (v := (.int .i64 n)) rfl ?_)
      refine s_on 13 rfl (congrArg Value.bool (decide_eq_false h5)) (o_move (v := (.pointer (some ⟨db, 0, none⟩))) rfl ?_)
      refine s_on 13 rfl (congrArg Value.bool (decide_eq_false h5)) (o_callf (vs := #[(.pointer (some ⟨db, 0, none⟩))]) ca85 rfl (args1 rfl) (sectors_d (p := p) (la := la) (lo := lo) ((hH.front 1 rfl).front 1 rfl).all2 hd ) ?_)
      rintro _ w8 ⟨rfl, hX6⟩
      refine ⟨_, rfl, ?_⟩
      have hH7 : Has E w8 [sg, [Hp.one pb (.cells #[(.bool p.off), (.bool p.armed), (.int .i64 p.left), (.int .i64 p.uses)] 145 (0, 0))], R] := hX6.of_all2
      refine s_on 13 rfl (congrArg Value.bool (decide_eq_false h5)) (o_gtr (a := n) (b := ((la.length : Nat) : Int)) rfl rfl ?_)
      refine s_op (o_pick_f (u := (.bool (decide (((la.length : Nat) : Int) < n)))) ((rfl : _ = _).trans (congrArg Value.bool (decide_eq_false h5))) rfl ?_)
      refine s_op (o_move (v := (.bool (decide (((la.length : Nat) : Int) < n)))) rfl ?_)
      by_cases h9 : ((la.length : Nat) : Int) < n
      · -- ((la.length : Nat) : Int) < n
        exfalso; omega
      · -- not: ((la.length : Nat) : Int) < n
        refine s_on 19 rfl (congrArg Value.bool (decide_eq_false h9)) (o_move (v := (.int .i64 fr)) rfl ?_)
        refine s_on 19 rfl (congrArg Value.bool (decide_eq_false h9)) (o_move (v := (.pointer (some ⟨db, 0, none⟩))) rfl ?_)
        refine s_on 19 rfl (congrArg Value.bool (decide_eq_false h9)) (o_callf (vs := #[(.pointer (some ⟨db, 0, none⟩))]) ca85 rfl (args1 rfl) (sectors_d (p := p) (la := la) (lo := lo) ((hH7.front 1 rfl).front 1 rfl).all2 hd ) ?_)
        rintro _ w12 ⟨rfl, hX10⟩
        refine ⟨_, rfl, ?_⟩
        have hH11 : Has E w12 [sg, [Hp.one pb (.cells #[(.bool p.off), (.bool p.armed), (.int .i64 p.left), (.int .i64 p.uses)] 145 (0, 0))], R] := hX10.of_all2
        refine s_on 19 rfl (congrArg Value.bool (decide_eq_false h9)) (o_move (v := (.int .i64 n)) rfl ?_)
        refine s_on 19 rfl (congrArg Value.bool (decide_eq_false h9)) (o_sub (a := ((la.length : Nat) : Int)) (b := n) rfl rfl (w64 (by omega) (by omega)) ?_)
        refine s_on 19 rfl (congrArg Value.bool (decide_eq_false h9)) (o_gtr (a := fr) (b := ((la.length : Nat) : Int) - n) rfl rfl ?_)
        refine s_op (o_pick_f (u := (.bool (decide (((la.length : Nat) : Int) - n < fr)))) ((rfl : _ = _).trans (congrArg Value.bool (decide_eq_false h9))) rfl ?_)
        refine s_nil ?_
        refine t_norm (hK3 _ _ ?_)
        refine c_cond rfl (fun h13 => ?_) (fun h13 => ?_)
        · -- ((la.length : Nat) : Int) - n < fr
          exfalso; omega
        · -- not: ((la.length : Nat) : Int) - n < fr
          refine wp_skip ?_
          refine t_norm (hK2 _ _ ?_)
          refine wp_seq_k fun K14 hK14 => ?_
          refine c_region ?_
          refine s_op (o_move (v := (.pointer (some ⟨db, 0, none⟩))) rfl ?_)
          refine s_op (o_move (v := (.int .i64 fr)) rfl ?_)
          refine s_op (o_move (v := (.int .i64 n)) rfl ?_)
          refine s_op (o_sight (v := (.agg #[(.pointer (some ⟨db, 0, none⟩)), (.int .i64 fr), (.int .i64 n)])) (fun _ => by kernel_rfl) ?_)
          refine s_op (o_box (cs := #[(.pointer (some ⟨db, 0, none⟩)), (.int .i64 fr), (.int .i64 n)]) rfl rfl hH11 fun b15 w16 hH17 => ?_)
          refine s_op (o_assign (v := (.pointer (some ⟨b15, 0, none⟩))) rfl ?_)
          refine s_nil ?_
          refine t_norm (hK14 _ _ ?_)
          refine wp_ret ?_
          refine c_ret1 Tryz.results268  (v := (.pointer (some ⟨b15, 0, none⟩))) rfl ?_
          exact ⟨_, rfl, hH17⟩
end Go.Q
namespace Go.Q
open Go.Proofs Go.Shelf
set_option maxRecDepth 100000
def trl_ren : Go.Shelf.Ren := ⟨fun | 160 => 189 | 232 => 270 | 231 => 269 | 227 => 271 | 234 => 273 | 233 => 272 | 236 => 275 | 235 => 274 | 228 => 328 | 271 => 331 | 151 => 330 | 197 => 329 | 120 => 367 | 152 => 366 | 260 => 365 | 137 => 392 | 119 => 393 | 224 => 394 | 225 => 395 | 217 => 404 | 266 => 410 | n => n, fun | 9 => 9 | 4 => 4 | 3 => 3 | 5 => 5 | 117 => 363 | 116 => 362 | 0 => 0 | 124 => 366 | 21 => 21 | 105 => 413 | 46 => 65 | 119 => 477 | 139 => 480 | 138 => 479 | n => n, fun | 3 => 2 | 4 => 3 | n => n⟩
theorem trl : Go.Proofs.Lays.n160 Tryz.prog trl_ren := {
  mixed := by kernel_rfl
  f119 := Tryz.func393.trans (congrArg some (by kernel_rfl))
  f120 := Tryz.func367.trans (congrArg some (by kernel_rfl))
  f137 := Tryz.func392.trans (congrArg some (by kernel_rfl))
  f151 := Tryz.func330.trans (congrArg some (by kernel_rfl))
  f152 := Tryz.func366.trans (congrArg some (by kernel_rfl))
  f160 := Tryz.func189.trans (congrArg some (by kernel_rfl))
  f197 := Tryz.func329.trans (congrArg some (by kernel_rfl))
  f217 := Tryz.func404.trans (congrArg some (by kernel_rfl))
  f224 := Tryz.func394.trans (congrArg some (by kernel_rfl))
  f225 := Tryz.func395.trans (congrArg some (by kernel_rfl))
  f227 := Tryz.func271.trans (congrArg some (by kernel_rfl))
  f228 := Tryz.func328.trans (congrArg some (by kernel_rfl))
  f231 := Tryz.func269.trans (congrArg some (by kernel_rfl))
  f232 := Tryz.func270.trans (congrArg some (by kernel_rfl))
  f233 := Tryz.func272.trans (congrArg some (by kernel_rfl))
  f234 := Tryz.func273.trans (congrArg some (by kernel_rfl))
  f235 := Tryz.func274.trans (congrArg some (by kernel_rfl))
  f236 := Tryz.func275.trans (congrArg some (by kernel_rfl))
  f260 := Tryz.func365.trans (congrArg some (by kernel_rfl))
  f266 := Tryz.func410.trans (congrArg some (by kernel_rfl))
  f271 := Tryz.func331.trans (congrArg some (by kernel_rfl))
  t0 := Tryz.underlying0
  a0 := Tryz.isAgg0
  z0 := Tryz.sizeOf0
  v0 := Tryz.zeroValue0
  t3 := Tryz.underlying3
  a3 := Tryz.isAgg3
  z3 := Tryz.sizeOf3
  v3 := Tryz.zeroValue3
  t4 := Tryz.underlying4
  a4 := Tryz.isAgg4
  z4 := Tryz.sizeOf4
  v4 := Tryz.zeroValue4
  t5 := Tryz.underlying5
  a5 := Tryz.isAgg5
  z5 := Tryz.sizeOf5
  v5 := Tryz.zeroValue5
  t9 := Tryz.underlying9
  a9 := Tryz.isAgg9
  z9 := Tryz.sizeOf9
  v9 := Tryz.zeroValue9
  t21 := Tryz.underlying21
  a21 := Tryz.isAgg21
  z21 := Tryz.sizeOf21
  v21 := Tryz.zeroValue21
  t46 := Tryz.underlying65
  a46 := Tryz.isAgg65
  z46 := Tryz.sizeOf65
  v46 := Tryz.zeroValue65
  t105 := Tryz.underlying413
  a105 := Tryz.isAgg413
  z105 := Tryz.sizeOf413
  v105 := Tryz.zeroValue413
  t116 := Tryz.underlying362
  a116 := Tryz.isAgg362
  z116 := Tryz.sizeOf362
  t117 := Tryz.underlying363
  a117 := Tryz.isAgg363
  z117 := Tryz.sizeOf363
  v117 := Tryz.zeroValue363
  t119 := Tryz.underlying477
  a119 := Tryz.isAgg477
  z119 := Tryz.sizeOf477
  t124 := Tryz.underlying366
  a124 := Tryz.isAgg366
  z124 := Tryz.sizeOf366
  v124 := Tryz.zeroValue366
  t138 := Tryz.underlying479
  a138 := Tryz.isAgg479
  z138 := Tryz.sizeOf479
  v138 := Tryz.zeroValue479
  t139 := Tryz.underlying480
  a139 := Tryz.isAgg480
  z139 := Tryz.sizeOf480
  v139 := Tryz.zeroValue480
  g3 := by kernel_rfl
  g4 := by kernel_rfl }

theorem strim_c {E w : World} {R : List Hp} (hH : Has E w [R]) (s : Bs) (hs : s.length ≤ 1000000) : Calls Tryz.prog 189 #[S s, S [0]] w fun e w' => e = .returned (S (Lib.trimB s 0)) ∧ Has E w' [R] := by
  refine (Any.strings_Trim_one trl ⟨s.toArray⟩ 0 (by decide) w (by simp only [ByteArray.size, List.size_toArray]; omega)).mono fun e w' h => ?_
  obtain ⟨h1, h2⟩ := h
  refine ⟨by rw [h1]; rfl, ?_⟩
  rcases h2 with h2 | h2
  · rw [h2]; exact hH
  · rw [h2]; exact Has0.drew hH _
theorem dropZ {s : Bs} : s.dropWhile (· == 0) = [] ↔ ∀ b ∈ s, b = 0 := by
  induction s with
  | nil => simp
  | cons x t ih =>
    rw [List.dropWhile_cons]
    by_cases h : x = 0
    · rw [if_pos (by simpa using h), ih]; simp [h]
    · rw [if_neg (by simpa using h)]; simp [h]
theorem trim_zero {s : Bs} : Lib.trimB s 0 = [] ↔ s = List.replicate s.length 0 := by
  unfold Lib.trimB Lib.trimLeftB Lib.trimRightB
  rw [dropZ, List.eq_replicate_iff]
  constructor
  · intro h
    refine ⟨rfl, ?_⟩
    have h1 : ∀ b ∈ s.reverse.dropWhile (· == 0), b = 0 := fun b hb => h b (List.mem_reverse.2 hb)
    have h2 : s.reverse.dropWhile (· == 0) = [] := by
      cases e : s.reverse.dropWhile (· == 0) with
      | nil => rfl
      | cons x t =>
        have hx := h1 x (by rw [e]; exact List.mem_cons_self ..)
        have hn := List.head?_dropWhile_not (fun b : UInt8 => b == 0) s.reverse
        rw [e] at hn
        simp [hx] at hn
    intro b hb
    exact dropZ.1 h2 b (List.mem_reverse.2 hb)
  · rintro ⟨_, h⟩ b hb
    have := (List.dropWhile_sublist _).subset (List.mem_reverse.1 hb)
    exact h b (List.mem_reverse.1 this)
end Go.Q
namespace Go.Q
open Go.Proofs
set_option linter.unusedVariables false
set_option maxRecDepth 100000
attribute [local irreducible] wpList OK Code.wp
set_option maxHeartbeats 4000000 in
theorem anew_no {E w : World} {R sg : List Hp} {db pb : Nat} {p : Pw} {la : List Bs} {lo : List (Int × Bs)} (hH : Has E w [sg, [Hp.one pb (.cells #[(.bool p.off), (.bool p.armed), (.int .i64 p.left), (.int .i64 p.uses)] 145 (0, 0))], R]) (hd : DevAt pb sg db la lo) {fr n : Int} (hno : fr < 0 ∨ n < 1 ∨ (la.length : Int) < n ∨ (la.length : Int) - n < fr) (hla : la.length ≤ 4096) :
    Calls Tryz.prog 268 #[(.pointer (some ⟨db, 0, none⟩)), (.int .i64 fr), (.int .i64 n)] w fun e w' => e = .returned (.pointer none) ∧ Has E w' [sg, [Hp.one pb (.cells #[(.bool p.off), (.bool p.armed), (.int .i64 p.left), (.int .i64 p.uses)] 145 (0, 0))], R] := by
  refine c_enter (args := [(.pointer (some ⟨db, 0, none⟩)), (.int .i64 fr), (.int .i64 n)]) Tryz.func268 rfl Tryz.ntmps268 (by simp) ?_
  refine wp_seq_k fun K1 hK1 => ?_
  refine c_region ?_
  refine s_op (o_assign (v := (.pointer none)) rfl ?_)
  refine s_nil ?_
  refine t_norm (hK1 _ _ ?_)
  refine wp_seq_k fun K2 hK2 => ?_
  refine wp_seq_k fun K3 hK3 => ?_
  refine c_region ?_
  refine s_op (o_move (v := (.int .i64 fr)) rfl ?_)
  refine s_op (o_lss (a := fr) (b := 0) rfl rfl ?_)
  refine s_op (o_move (v := (.bool (decide (fr < 0)))) rfl ?_)
  by_cases h4 : fr < 0
  · -- fr < 0
    refine s_off (b' := true) 9 rfl (congrArg Value.bool (decide_eq_true h4)) rfl ?_
    refine s_off (b' := true) 9 rfl (congrArg Value.bool (decide_eq_true h4)) rfl ?_
    refine s_op (o_pick_t (u := (.bool true)) ((rfl : _ = _).trans (congrArg Value.bool (decide_eq_true h4))) rfl ?_)
    refine s_op (o_move (v := (.bool true)) rfl ?_)
    refine s_off (b' := true) 13 rfl rfl rfl ?_
    refine s_off (b' := true) 13 rfl rfl rfl ?_
    refine s_off (b' := true) 13 rfl rfl rfl ?_
    refine s_off (b' := true) 13 rfl rfl rfl ?_
    refine s_op (o_pick_t (u := (.bool true)) rfl rfl ?_)
    refine s_op (o_move (v := (.bool true)) rfl ?_)
    refine s_off (b' := true) 19 rfl rfl rfl ?_
    refine s_off (b' := true) 19 rfl rfl rfl ?_
    refine s_off (b' := true) 19 rfl rfl rfl ?_
    refine s_off (b' := true) 19 rfl rfl rfl ?_
    refine s_off (b' := true) 19 rfl rfl rfl ?_
    refine s_off (b' := true) 19 rfl rfl rfl ?_
    refine s_op (o_pick_t (u := (.bool true)) rfl rfl ?_)
    refine s_nil ?_
    refine t_norm (hK3 _ _ ?_)
    refine c_true rfl rfl ?_
    refine wp_seq_k fun K5 hK5 => ?_
    refine c_region ?_
    refine s_op (o_assign (v := (.pointer none)) rfl ?_)
    refine s_nil ?_
    refine t_norm (hK5 _ _ ?_)
    refine wp_ret ?_
    refine t_ret (c_ret1 Tryz.results268  (v := (.pointer none)) rfl ?_)
    exact ⟨rfl, hH⟩
  · -- not: fr < 0
    refine s_on 9 rfl (congrArg Value.bool (decide_eq_false h4)) (o_move (v := (.int .i64 n)) rfl ?_)
    refine s_on 9 rfl (congrArg Value.bool (decide_eq_false h4)) (o_lss (a := n) (b := 1) rfl rfl ?_)
    refine s_op (o_pick_f (u := (.bool (decide (n < 1)))) ((rfl : _ = _).trans (congrArg Value.bool (decide_eq_false h4))) rfl ?_)
    refine s_op (o_move (v := (.bool (decide (n < 1)))) rfl ?_)
    by_cases h6 : n < 1
    · -- n < 1
      refine s_off (b' := true) 13 rfl (congrArg Value.bool (decide_eq_true h6)) rfl ?_
      refine s_off (b' := true) 13 rfl (congrArg Value.bool (decide_eq_true h6)) rfl ?_
      refine s_off (b' := true) 13 rfl (congrArg Value.bool (decide_eq_true h6)) rfl ?_
      refine s_off (b' := true) 13 rfl (congrArg Value.bool (decide_eq_true h6)) rfl ?_
      refine s_op (o_pick_t (u := (.bool true)) ((rfl : _ = _).trans (congrArg Value.bool (decide_eq_true h6))) rfl ?_)
      refine s_op (o_move (v := (.bool true)) rfl ?_)
      refine s_off (b' := true) 19 rfl rfl rfl ?_
      refine s_off (b' := true) 19 rfl rfl rfl ?_
      refine s_off (b' := true) 19 rfl rfl rfl ?_
      refine s_off (b' := true) 19 rfl rfl rfl ?_
      refine s_off (b' := true) 19 rfl rfl rfl ?_
      refine s_off (b' := true) 19 rfl rfl rfl ?_
      refine s_op (o_pick_t (u := (.bool true)) rfl rfl ?_)
      refine s_nil ?_
      refine t_norm (hK3 _ _ ?_)
      refine c_true rfl rfl ?_
      refine wp_seq_k fun K7 hK7 => ?_
      refine c_region ?_
      refine s_op (o_assign (v := (.pointer none)) rfl ?_)
      refine s_nil ?_
      refine t_norm (hK7 _ _ ?_)
      refine wp_ret ?_
      refine t_ret (c_ret1 Tryz.results268  (v := (.pointer none)) rfl ?_)
      exact ⟨rfl, hH⟩
    · -- not: n < 1
      refine s_on 13 rfl (congrArg Value.bool (decide_eq_false h6)) (o_move (v := (.int .i64 n)) rfl ?_)
      refine s_on 13 rfl (congrArg Value.bool (decide_eq_false h6)) (o_move (v := (.pointer (some ⟨db, 0, none⟩))) rfl ?_)
      refine s_on 13 rfl (congrArg Value.bool (decide_eq_false h6)) (o_callf (vs := #[(.pointer (some ⟨db, 0, none⟩))]) ca85 rfl (args1 rfl) (sectors_d (p := p) (la := la) (lo := lo) ((hH.front 1 rfl).front 1 rfl).all2 hd ) ?_)
      rintro _ w10 ⟨rfl, hX8⟩
      refine ⟨_, rfl, ?_⟩
      have hH9 : Has E w10 [sg, [Hp.one pb (.cells #[(.bool p.off), (.bool p.armed), (.int .i64 p.left), (.int .i64 p.uses)] 145 (0, 0))], R] := hX8.of_all2
      refine s_on 13 rfl (congrArg Value.bool (decide_eq_false h6)) (o_gtr (a := n) (b := ((la.length : Nat) : Int)) rfl rfl ?_)
      refine s_op (o_pick_f (u := (.bool (decide (((la.length : Nat) : Int) < n)))) ((rfl : _ = _).trans (congrArg Value.bool (decide_eq_false h6))) rfl ?_)
      refine s_op (o_move (v := (.bool (decide (((la.length : Nat) : Int) < n)))) rfl ?_)
      by_cases h11 : ((la.length : Nat) : Int) < n
      · -- ((la.length : Nat) : Int) < n
        refine s_off (b' := true) 19 rfl (congrArg Value.bool (decide_eq_true h11)) rfl ?_
        refine s_off (b' := true) 19 rfl (congrArg Value.bool (decide_eq_true h11)) rfl ?_
        refine s_off (b' := true) 19 rfl (congrArg Value.bool (decide_eq_true h11)) rfl ?_
        refine s_off (b' := true) 19 rfl (congrArg Value.bool (decide_eq_true h11)) rfl ?_
        refine s_off (b' := true) 19 rfl (congrArg Value.bool (decide_eq_true h11)) rfl ?_
        refine s_off (b' := true) 19 rfl (congrArg Value.bool (decide_eq_true h11)) rfl ?_
        refine s_op (o_pick_t (u := (.bool true)) ((rfl : _ = _).trans (congrArg Value.bool (decide_eq_true h11))) rfl ?_)
        refine s_nil ?_
        refine t_norm (hK3 _ _ ?_)
        refine c_true rfl rfl ?_
        refine wp_seq_k fun K12 hK12 => ?_
        refine c_region ?_
        refine s_op (o_assign (v := (.pointer none)) rfl ?_)
        refine s_nil ?_
        refine t_norm (hK12 _ _ ?_)
        refine wp_ret ?_
        refine t_ret (c_ret1 Tryz.results268  (v := (.pointer none)) rfl ?_)
        exact ⟨rfl, hH9⟩
      · -- not: ((la.length : Nat) : Int) < n
        refine s_on 19 rfl (congrArg Value.bool (decide_eq_false h11)) (o_move (v := (.int .i64 fr)) rfl ?_)
        refine s_on 19 rfl (congrArg Value.bool (decide_eq_false h11)) (o_move (v := (.pointer (some ⟨db, 0, none⟩))) rfl ?_)
        refine s_on 19 rfl (congrArg Value.bool (decide_eq_false h11)) (o_callf (vs := #[(.pointer (some ⟨db, 0, none⟩))]) ca85 rfl (args1 rfl) (sectors_d (p := p) (la := la) (lo := lo) ((hH9.front 1 rfl).front 1 rfl).all2 hd ) ?_)
        rintro _ w15 ⟨rfl, hX13⟩
        refine ⟨_, rfl, ?_⟩
        have hH14 : Has E w15 [sg, [Hp.one pb (.cells #[(.bool p.off), (.bool p.armed), (.int .i64 p.left), (.int .i64 p.uses)] 145 (0, 0))], R] := hX13.of_all2
        refine s_on 19 rfl (congrArg Value.bool (decide_eq_false h11)) (o_move (v := (.int .i64 n)) rfl ?_)
        refine s_on 19 rfl (congrArg Value.bool (decide_eq_false h11)) (o_sub (a := ((la.length : Nat) : Int)) (b := n) rfl rfl (w64 (by omega) (by omega)) ?_)
        refine s_on 19 rfl (congrArg Value.bool (decide_eq_false h11)) (o_gtr (a := fr) (b := ((la.length : Nat) : Int) - n) rfl rfl ?_)
        refine s_op (o_pick_f (u := (.bool (decide (((la.length : Nat) : Int) - n < fr)))) ((rfl : _ = _).trans (congrArg Value.bool (decide_eq_false h11))) rfl ?_)
        refine s_nil ?_
        refine t_norm (hK3 _ _ ?_)
        refine c_cond rfl (fun h16 => ?_) (fun h16 => ?_)
        · -- ((la.length : Nat) : Int) - n < fr
          refine wp_seq_k fun K17 hK17 => ?_
          refine c_region ?_
          refine s_op (o_assign (v := (.pointer none)) rfl ?_)
          refine s_nil ?_
          refine t_norm (hK17 _ _ ?_)
          refine wp_ret ?_
          refine t_ret (c_ret1 Tryz.results268  (v := (.pointer none)) rfl ?_)
          exact ⟨rfl, hH14⟩
        · -- not: ((la.length : Nat) : Int) - n < fr
          refine wp_skip ?_
          refine t_norm (hK2 _ _ ?_)
          refine wp_seq_k fun K18 hK18 => ?_
          refine c_region ?_
          refine s_op (o_move (v := (.pointer (some ⟨db, 0, none⟩))) rfl ?_)
          refine s_op (o_move (v := (.int .i64 fr)) rfl ?_)
          refine s_op (o_move (v := (.int .i64 n)) rfl ?_)
          refine s_op (o_sight (v := (.agg #[(.pointer (some ⟨db, 0, none⟩)), (.int .i64 fr), (.int .i64 n)])) (fun _ => by kernel_rfl) ?_)
          refine s_op (o_box (cs := #[(.pointer (some ⟨db, 0, none⟩)), (.int .i64 fr), (.int .i64 n)]) rfl rfl hH14 fun b19 w20 hH21 => ?_)
          refine s_op (o_assign (v := (.pointer (some ⟨b19, 0, none⟩))) rfl ?_)
          refine s_nil ?_
          refine t_norm (hK18 _ _ ?_)
          refine wp_ret ?_
          refine c_ret1 Tryz.results268  (v := (.pointer (some ⟨b19, 0, none⟩))) rfl ?_
          exfalso; omega
set_option maxHeartbeats 4000000 in
theorem anew_nil {E w : World} {R : List Hp} (hH : Has E w [R]) (fr n : Int) :
    Calls Tryz.prog 268 #[(.pointer none), (.int .i64 fr), (.int .i64 n)] w fun e w' => e = .returned (.pointer none) ∧ Has E w' [R] := by
  refine c_enter (args := [(.pointer none), (.int .i64 fr), (.int .i64 n)]) Tryz.func268 rfl Tryz.ntmps268 (by simp) ?_
  refine wp_seq_k fun K1 hK1 => ?_
  refine c_region ?_
  refine s_op (o_assign (v := (.pointer none)) rfl ?_)
  refine s_nil ?_
  refine t_norm (hK1 _ _ ?_)
  refine wp_seq_k fun K2 hK2 => ?_
  refine wp_seq_k fun K3 hK3 => ?_
  refine c_region ?_
  refine s_op (o_move (v := (.int .i64 fr)) rfl ?_)
  refine s_op (o_lss (a := fr) (b := 0) rfl rfl ?_)
  refine s_op (o_move (v := (.bool (decide (fr < 0)))) rfl ?_)
  by_cases h4 : fr < 0
  · -- fr < 0
    refine s_off (b' := true) 9 rfl (congrArg Value.bool (decide_eq_true h4)) rfl ?_
    refine s_off (b' := true) 9 rfl (congrArg Value.bool (decide_eq_true h4)) rfl ?_
    refine s_op (o_pick_t (u := (.bool true)) ((rfl : _ = _).trans (congrArg Value.bool (decide_eq_true h4))) rfl ?_)
    refine s_op (o_move (v := (.bool true)) rfl ?_)
    refine s_off (b' := true) 13 rfl rfl rfl ?_
    refine s_off (b' := true) 13 rfl rfl rfl ?_
    refine s_off (b' := true) 13 rfl rfl rfl ?_
    refine s_off (b' := true) 13 rfl rfl rfl ?_
    refine s_op (o_pick_t (u := (.bool true)) rfl rfl ?_)
    refine s_op (o_move (v := (.bool true)) rfl ?_)
    refine s_off (b' := true) 19 rfl rfl rfl ?_
    refine s_off (b' := true) 19 rfl rfl rfl ?_
    refine s_off (b' := true) 19 rfl rfl rfl ?_
    refine s_off (b' := true) 19 rfl rfl rfl ?_
    refine s_off (b' := true) 19 rfl rfl rfl ?_
    refine s_off (b' := true) 19 rfl rfl rfl ?_
    refine s_op (o_pick_t (u := (.bool true)) rfl rfl ?_)
    refine s_nil ?_
    refine t_norm (hK3 _ _ ?_)
    refine c_true rfl rfl ?_
    refine wp_seq_k fun K5 hK5 => ?_
    refine c_region ?_
    refine s_op (o_assign (v := (.pointer none)) rfl ?_)
    refine s_nil ?_
    refine t_norm (hK5 _ _ ?_)
    refine wp_ret ?_
    refine t_ret (c_ret1 Tryz.results268  (v := (.pointer none)) rfl ?_)
    exact ⟨rfl, hH⟩
  · -- not: fr < 0
    refine s_on 9 rfl (congrArg Value.bool (decide_eq_false h4)) (o_move (v := (.int .i64 n)) rfl ?_)
    refine s_on 9 rfl (congrArg Value.bool (decide_eq_false h4)) (o_lss (a := n) (b := 1) rfl rfl ?_)
    refine s_op (o_pick_f (u := (.bool (decide (n < 1)))) ((rfl : _ = _).trans (congrArg Value.bool (decide_eq_false h4))) rfl ?_)
    refine s_op (o_move (v := (.bool (decide (n < 1)))) rfl ?_)
    by_cases h6 : n < 1
    · -- n < 1
      refine s_off (b' := true) 13 rfl (congrArg Value.bool (decide_eq_true h6)) rfl ?_
      refine s_off (b' := true) 13 rfl (congrArg Value.bool (decide_eq_true h6)) rfl ?_
      refine s_off (b' := true) 13 rfl (congrArg Value.bool (decide_eq_true h6)) rfl ?_
      refine s_off (b' := true) 13 rfl (congrArg Value.bool (decide_eq_true h6)) rfl ?_
      refine s_op (o_pick_t (u := (.bool true)) ((rfl : _ = _).trans (congrArg Value.bool (decide_eq_true h6))) rfl ?_)
      refine s_op (o_move (v := (.bool true)) rfl ?_)
      refine s_off (b' := true) 19 rfl rfl rfl ?_
      refine s_off (b' := true) 19 rfl rfl rfl ?_
      refine s_off (b' := true) 19 rfl rfl rfl ?_
      refine s_off (b' := true) 19 rfl rfl rfl ?_
      refine s_off (b' := true) 19 rfl rfl rfl ?_
      refine s_off (b' := true) 19 rfl rfl rfl ?_
      refine s_op (o_pick_t (u := (.bool true)) rfl rfl ?_)
      refine s_nil ?_
      refine t_norm (hK3 _ _ ?_)
      refine c_true rfl rfl ?_
      refine wp_seq_k fun K7 hK7 => ?_
      refine c_region ?_
      refine s_op (o_assign (v := (.pointer none)) rfl ?_)
      refine s_nil ?_
      refine t_norm (hK7 _ _ ?_)
      refine wp_ret ?_
      refine t_ret (c_ret1 Tryz.results268  (v := (.pointer none)) rfl ?_)
      exact ⟨rfl, hH⟩
    · -- not: n < 1
      refine s_on 13 rfl (congrArg Value.bool (decide_eq_false h6)) (o_move (v := (.int .i64 n)) rfl ?_)
      refine s_on 13 rfl (congrArg Value.bool (decide_eq_false h6)) (o_move (v := (.pointer none)) rfl ?_)
      refine s_on 13 rfl (congrArg Value.bool (decide_eq_false h6)) (o_callf (vs := #[(.pointer none)]) ca85 rfl (args1 rfl) (sectors_nil hH.all) ?_)
      rintro _ w10 ⟨rfl, hX8⟩
      refine ⟨_, rfl, ?_⟩
      have hH9 := hX8.of_all
      refine s_on 13 rfl (congrArg Value.bool (decide_eq_false h6)) (o_gtr (a := n) (b := (0 : Int)) rfl rfl ?_)
      refine s_op (o_pick_f (u := (.bool (decide ((0 : Int) < n)))) ((rfl : _ = _).trans (congrArg Value.bool (decide_eq_false h6))) rfl ?_)
      refine s_op (o_move (v := (.bool (decide ((0 : Int) < n)))) rfl ?_)
      by_cases h11 : (0 : Int) < n
      · -- (0 : Int) < n
        refine s_off (b' := true) 19 rfl (congrArg Value.bool (decide_eq_true h11)) rfl ?_
        refine s_off (b' := true) 19 rfl (congrArg Value.bool (decide_eq_true h11)) rfl ?_
        refine s_off (b' := true) 19 rfl (congrArg Value.bool (decide_eq_true h11)) rfl ?_
        refine s_off (b' := true) 19 rfl (congrArg Value.bool (decide_eq_true h11)) rfl ?_
        refine s_off (b' := true) 19 rfl (congrArg Value.bool (decide_eq_true h11)) rfl ?_
        refine s_off (b' := true) 19 rfl (congrArg Value.bool (decide_eq_true h11)) rfl ?_
        refine s_op (o_pick_t (u := (.bool true)) ((rfl : _ = _).trans (congrArg Value.bool (decide_eq_true h11))) rfl ?_)
        refine s_nil ?_
        refine t_norm (hK3 _ _ ?_)
        refine c_true rfl rfl ?_
        refine wp_seq_k fun K12 hK12 => ?_
        refine c_region ?_
        refine s_op (o_assign (v := (.pointer none)) rfl ?_)
        refine s_nil ?_
        refine t_norm (hK12 _ _ ?_)
        refine wp_ret ?_
        refine t_ret (c_ret1 Tryz.results268  (v := (.pointer none)) rfl ?_)
        exact ⟨rfl, hH9⟩
      · -- not: (0 : Int) < n
        refine s_on 19 rfl (congrArg Value.bool (decide_eq_false h11)) (o_move (v := (.int .i64 fr)) rfl ?_)
        refine s_on 19 rfl (congrArg Value.bool (decide_eq_false h11)) (o_move (v := (.pointer none)) rfl ?_)
        refine s_on 19 rfl (congrArg Value.bool (decide_eq_false h11)) (o_callf (vs := #[(.pointer none)]) ca85 rfl (args1 rfl) (sectors_nil hH9.all) ?_)
        rintro _ w15 ⟨rfl, hX13⟩
        refine ⟨_, rfl, ?_⟩
        have hH14 := hX13.of_all
        refine s_on 19 rfl (congrArg Value.bool (decide_eq_false h11)) (o_move (v := (.int .i64 n)) rfl ?_)
        refine s_on 19 rfl (congrArg Value.bool (decide_eq_false h11)) (o_sub (a := (0 : Int)) (b := n) rfl rfl (w64 (by omega) (by omega)) ?_)
        refine s_on 19 rfl (congrArg Value.bool (decide_eq_false h11)) (o_gtr (a := fr) (b := (0 : Int) - n) rfl rfl ?_)
        refine s_op (o_pick_f (u := (.bool (decide ((0 : Int) - n < fr)))) ((rfl : _ = _).trans (congrArg Value.bool (decide_eq_false h11))) rfl ?_)
        refine s_nil ?_
        refine t_norm (hK3 _ _ ?_)
        refine c_cond rfl (fun h16 => ?_) (fun h16 => ?_)
        · -- (0 : Int) - n < fr
          refine wp_seq_k fun K17 hK17 => ?_
          refine c_region ?_
          refine s_op (o_assign (v := (.pointer none)) rfl ?_)
          refine s_nil ?_
          refine t_norm (hK17 _ _ ?_)
          refine wp_ret ?_
          refine t_ret (c_ret1 Tryz.results268  (v := (.pointer none)) rfl ?_)
          exact ⟨rfl, hH14⟩
        · -- not: (0 : Int) - n < fr
          refine wp_skip ?_
          refine t_norm (hK2 _ _ ?_)
          refine wp_seq_k fun K18 hK18 => ?_
          refine c_region ?_
          refine s_op (o_move (v := (.pointer none)) rfl ?_)
          refine s_op (o_move (v := (.int .i64 fr)) rfl ?_)
          refine s_op (o_move (v := (.int .i64 n)) rfl ?_)
          refine s_op (o_sight (v := (.agg #[(.pointer none), (.int .i64 fr), (.int .i64 n)])) (fun _ => by kernel_rfl) ?_)
          refine s_op (o_box (cs := #[(.pointer none), (.int .i64 fr), (.int .i64 n)]) rfl rfl hH14 fun b19 w20 hH21 => ?_)
          refine s_op (o_assign (v := (.pointer (some ⟨b19, 0, none⟩))) rfl ?_)
          refine s_nil ?_
          refine t_norm (hK18 _ _ ?_)
          refine wp_ret ?_
          refine c_ret1 Tryz.results268  (v := (.pointer (some ⟨b19, 0, none⟩))) rfl ?_
          exfalso; omega
end Go.Q
namespace Go.Q
open Go.Proofs
set_option linter.unusedVariables false
set_option maxRecDepth 100000
attribute [local irreducible] wpList OK Code.wp
set_option maxHeartbeats 4000000 in
theorem sring_ok {E w : World} {R sg : List Hp} {pb db : Nat} {d : Dv} (hH : Has E w [sg, [Hp.one pb (.cells #[(.bool d.p.off), (.bool d.p.armed), (.int .i64 d.p.left), (.int .i64 d.p.uses)] 145 (0, 0))], R]) (hd : DevAt pb sg db d.la d.lo) (h4 : d.la.length ≤ 4096) (h3 : 3 ≤ d.la.length) :
    Calls Tryz.prog 185 #[(.pointer (some ⟨db, 0, none⟩))] w fun e w' => ∃ ab, e = .returned (.tuple #[.pointer (some ⟨ab, 0, none⟩), .bool true]) ∧ Has E w' [[Hp.one ab (.cells #[(.pointer (some ⟨db, 0, none⟩)), (.int .i64 2), (.int .i64 (((d.la.length : Nat) : Int) - 2))] 265 (0, 0))], sg, [Hp.one pb (.cells #[(.bool d.p.off), (.bool d.p.armed), (.int .i64 d.p.left), (.int .i64 d.p.uses)] 145 (0, 0))], R] := by
  refine c_enter (args := [(.pointer (some ⟨db, 0, none⟩))]) Tryz.func185 rfl Tryz.ntmps185 (by simp) ?_
  refine wp_seq_k fun K1 hK1 => ?_
  refine c_region ?_
  refine s_op (o_assign (v := (.pointer none)) rfl ?_)
  refine s_op (o_assign (v := (.bool false)) rfl ?_)
  refine s_nil ?_
  refine t_norm (hK1 _ _ ?_)
  refine wp_seq_k fun K2 hK2 => ?_
  refine c_region ?_
  refine s_op (o_move (v := (.pointer (some ⟨db, 0, none⟩))) rfl ?_)
  refine s_op (o_move (v := (.pointer (some ⟨db, 0, none⟩))) rfl ?_)
  refine s_op (o_callf (vs := #[(.pointer (some ⟨db, 0, none⟩))]) ca85 rfl (args1 rfl) (sectors_d (p := d.p) (la := d.la) (lo := d.lo) ((hH.front 1 rfl).front 1 rfl).all2 hd ) ?_)
  rintro _ w5 ⟨rfl, hX3⟩
  refine ⟨_, rfl, ?_⟩
  have hH4 : Has E w5 [sg, [Hp.one pb (.cells #[(.bool d.p.off), (.bool d.p.armed), (.int .i64 d.p.left), (.int .i64 d.p.uses)] 145 (0, 0))], R] := hX3.of_all2
  refine s_op (o_sub (a := ((d.la.length : Nat) : Int)) (b := 2) rfl rfl (w64 (by omega) (by omega)) ?_)
  refine s_op (o_callf (vs := #[(.pointer (some ⟨db, 0, none⟩)), (.int .i64 2), (.int .i64 (((d.la.length : Nat) : Int) - 2))]) ca268 rfl (args3 rfl rfl rfl) (anew_c ((hH4.front 1 rfl).front 1 rfl).all2 hd (by omega) (by omega) (by omega) h4) ?_)
  rintro _ w9 ⟨ab6, rfl, hX7⟩
  refine ⟨_, rfl, ?_⟩
  have hH8 : Has E w9 [[Hp.one ab6 (.cells #[(.pointer (some ⟨db, 0, none⟩)), (.int .i64 2), (.int .i64 (((d.la.length : Nat) : Int) - 2))] 265 (0, 0))], sg, [Hp.one pb (.cells #[(.bool d.p.off), (.bool d.p.armed), (.int .i64 d.p.left), (.int .i64 d.p.uses)] 145 (0, 0))], R] := hX7.of_all3
  refine s_op (o_assign (v := (.pointer (some ⟨ab6, 0, none⟩))) rfl ?_)
  refine s_nil ?_
  refine t_norm (hK2 _ _ ?_)
  refine wp_seq_k fun K10 hK10 => ?_
  refine c_region ?_
  refine s_op (o_move (v := (.pointer (some ⟨ab6, 0, none⟩))) rfl ?_)
  refine s_op (o_move (v := (.pointer (some ⟨ab6, 0, none⟩))) rfl ?_)
  refine s_op (o_pnnil (p := some _) Tryz.underlying160 rfl rfl ?_)
  refine s_op (o_assign (v := (.pointer (some ⟨ab6, 0, none⟩))) rfl ?_)
  refine s_op (o_assign (v := (.bool true)) rfl ?_)
  refine s_nil ?_
  refine t_norm (hK10 _ _ ?_)
  refine wp_ret ?_
  refine c_ret2 Tryz.results185  (v := (.pointer (some ⟨ab6, 0, none⟩))) rfl (x := (.bool true)) rfl ?_
  exact ⟨_, rfl, hH8⟩
set_option maxHeartbeats 4000000 in
theorem sring_few {E w : World} {R sg : List Hp} {pb db : Nat} {d : Dv} (hH : Has E w [sg, [Hp.one pb (.cells #[(.bool d.p.off), (.bool d.p.armed), (.int .i64 d.p.left), (.int .i64 d.p.uses)] 145 (0, 0))], R]) (hd : DevAt pb sg db d.la d.lo) (h4 : d.la.length ≤ 4096) (h3 : d.la.length < 3) :
    Calls Tryz.prog 185 #[(.pointer (some ⟨db, 0, none⟩))] w fun e w' => e = .returned (.tuple #[.pointer none, .bool false]) ∧ Has E w' [sg, [Hp.one pb (.cells #[(.bool d.p.off), (.bool d.p.armed), (.int .i64 d.p.left), (.int .i64 d.p.uses)] 145 (0, 0))], R] := by
  refine c_enter (args := [(.pointer (some ⟨db, 0, none⟩))]) Tryz.func185 rfl Tryz.ntmps185 (by simp) ?_
  refine wp_seq_k fun K1 hK1 => ?_
  refine c_region ?_
  refine s_op (o_assign (v := (.pointer none)) rfl ?_)
  refine s_op (o_assign (v := (.bool false)) rfl ?_)
  refine s_nil ?_
  refine t_norm (hK1 _ _ ?_)
  refine wp_seq_k fun K2 hK2 => ?_
  refine c_region ?_
  refine s_op (o_move (v := (.pointer (some ⟨db, 0, none⟩))) rfl ?_)
  refine s_op (o_move (v := (.pointer (some ⟨db, 0, none⟩))) rfl ?_)
  refine s_op (o_callf (vs := #[(.pointer (some ⟨db, 0, none⟩))]) ca85 rfl (args1 rfl) (sectors_d (p := d.p) (la := d.la) (lo := d.lo) ((hH.front 1 rfl).front 1 rfl).all2 hd ) ?_)
  rintro _ w5 ⟨rfl, hX3⟩
  refine ⟨_, rfl, ?_⟩
  have hH4 : Has E w5 [sg, [Hp.one pb (.cells #[(.bool d.p.off), (.bool d.p.armed), (.int .i64 d.p.left), (.int .i64 d.p.uses)] 145 (0, 0))], R] := hX3.of_all2
  refine s_op (o_sub (a := ((d.la.length : Nat) : Int)) (b := 2) rfl rfl (w64 (by omega) (by omega)) ?_)
  refine s_op (o_callf (vs := #[(.pointer (some ⟨db, 0, none⟩)), (.int .i64 2), (.int .i64 (((d.la.length : Nat) : Int) - 2))]) ca268 rfl (args3 rfl rfl rfl) (anew_no ((hH4.front 1 rfl).front 1 rfl).all2 hd (by omega) h4) ?_)
  rintro _ w8 ⟨rfl, hX6⟩
  refine ⟨_, rfl, ?_⟩
  have hH7 : Has E w8 [sg, [Hp.one pb (.cells #[(.bool d.p.off), (.bool d.p.armed), (.int .i64 d.p.left), (.int .i64 d.p.uses)] 145 (0, 0))], R] := hX6.of_all2
  refine s_op (o_assign (v := (.pointer none)) rfl ?_)
  refine s_nil ?_
  refine t_norm (hK2 _ _ ?_)
  refine wp_seq_k fun K9 hK9 => ?_
  refine c_region ?_
  refine s_op (o_move (v := (.pointer none)) rfl ?_)
  refine s_op (o_move (v := (.pointer none)) rfl ?_)
  refine s_op (o_pnnil (p := none) Tryz.underlying160 rfl rfl ?_)
  refine s_op (o_assign (v := (.pointer none)) rfl ?_)
  refine s_op (o_assign (v := (.bool false)) rfl ?_)
  refine s_nil ?_
  refine t_norm (hK9 _ _ ?_)
  refine wp_ret ?_
  refine c_ret2 Tryz.results185  (v := (.pointer none)) rfl (x := (.bool false)) rfl ?_
  exact ⟨rfl, hH7⟩
set_option maxHeartbeats 4000000 in
theorem sring_nil {E w : World} {R : List Hp} (hH : Has E w [R]) :
    Calls Tryz.prog 185 #[(.pointer none)] w fun e w' => e = .returned (.tuple #[.pointer none, .bool false]) ∧ Has E w' [R] := by
  refine c_enter (args := [(.pointer none)]) Tryz.func185 rfl Tryz.ntmps185 (by simp) ?_
  refine wp_seq_k fun K1 hK1 => ?_
  refine c_region ?_
  refine s_op (o_assign (v := (.pointer none)) rfl ?_)
  refine s_op (o_assign (v := (.bool false)) rfl ?_)
  refine s_nil ?_
  refine t_norm (hK1 _ _ ?_)
  refine wp_seq_k fun K2 hK2 => ?_
  refine c_region ?_
  refine s_op (o_move (v := (.pointer none)) rfl ?_)
  refine s_op (o_move (v := (.pointer none)) rfl ?_)
  refine s_op (o_callf (vs := #[(.pointer none)]) ca85 rfl (args1 rfl) (sectors_nil hH.all) ?_)
  rintro _ w5 ⟨rfl, hX3⟩
  refine ⟨_, rfl, ?_⟩
  have hH4 := hX3.of_all
  refine s_op (o_sub (a := (0 : Int)) (b := 2) rfl rfl (w64 (by omega) (by omega)) ?_)
  refine s_op (o_callf (vs := #[(.pointer none), (.int .i64 2), (.int .i64 ((0 : Int) - 2))]) ca268 rfl (args3 rfl rfl rfl) (anew_nil hH4.all 2 ((0 : Int) - 2)) ?_)
  rintro _ w8 ⟨rfl, hX6⟩
  refine ⟨_, rfl, ?_⟩
  have hH7 := hX6.of_all
  refine s_op (o_assign (v := (.pointer none)) rfl ?_)
  refine s_nil ?_
  refine t_norm (hK2 _ _ ?_)
  refine wp_seq_k fun K9 hK9 => ?_
  refine c_region ?_
  refine s_op (o_move (v := (.pointer none)) rfl ?_)
  refine s_op (o_move (v := (.pointer none)) rfl ?_)
  refine s_op (o_pnnil (p := none) Tryz.underlying160 rfl rfl ?_)
  refine s_op (o_assign (v := (.pointer none)) rfl ?_)
  refine s_op (o_assign (v := (.bool false)) rfl ?_)
  refine s_nil ?_
  refine t_norm (hK9 _ _ ?_)
  refine wp_ret ?_
  refine c_ret2 Tryz.results185  (v := (.pointer none)) rfl (x := (.bool false)) rfl ?_
  exact ⟨rfl, hH7⟩
set_option maxHeartbeats 4000000 in
theorem sbegin_ok {E w : World} {R sg : List Hp} {pb db : Nat} {d : Dv} (hH : Has E w [sg, [Hp.one pb (.cells #[(.bool d.p.off), (.bool d.p.armed), (.int .i64 d.p.left), (.int .i64 d.p.uses)] 145 (0, 0))], R]) (hd : DevAt pb sg db d.la d.lo) (h4 : d.la.length ≤ 4096) (h3 : 3 ≤ d.la.length) (hon : d.p.off = false) :
    Calls Tryz.prog 96 #[(.pointer (some ⟨db, 0, none⟩))] w fun e w' => ∃ ab, e = .returned (.tuple #[.pointer (some ⟨ab, 0, none⟩), .int .i64 0]) ∧ Has E w' [[Hp.one ab (.cells #[(.pointer (some ⟨db, 0, none⟩)), (.int .i64 2), (.int .i64 (((d.la.length : Nat) : Int) - 2))] 265 (0, 0))], sg, [Hp.one pb (.cells #[(.bool d.p.off), (.bool d.p.armed), (.int .i64 d.p.left), (.int .i64 d.p.uses)] 145 (0, 0))], R] := by
  refine c_enter (args := [(.pointer (some ⟨db, 0, none⟩))]) Tryz.func96 rfl Tryz.ntmps96 (by simp) ?_
  refine wp_seq_k fun K1 hK1 => ?_
  refine c_region ?_
  refine s_op (o_assign (v := (.pointer none)) rfl ?_)
  refine s_op (o_assign (v := (.int .i64 0)) rfl ?_)
  refine s_nil ?_
  refine t_norm (hK1 _ _ ?_)
  refine wp_seq_k fun K2 hK2 => ?_
  refine c_region ?_
  refine s_op (o_move (v := (.pointer (some ⟨db, 0, none⟩))) rfl ?_)
  refine s_op (o_callf (vs := #[(.pointer (some ⟨db, 0, none⟩))]) ca185 rfl (args1 rfl) (sring_ok ((hH.front 1 rfl).front 1 rfl).all2 hd h4 h3) ?_)
  rintro _ w6 ⟨ab3, rfl, hX4⟩
  refine ⟨_, rfl, ?_⟩
  have hH5 : Has E w6 [[Hp.one ab3 (.cells #[(.pointer (some ⟨db, 0, none⟩)), (.int .i64 2), (.int .i64 (((d.la.length : Nat) : Int) - 2))] 265 (0, 0))], sg, [Hp.one pb (.cells #[(.bool d.p.off), (.bool d.p.armed), (.int .i64 d.p.left), (.int .i64 d.p.uses)] 145 (0, 0))], R] := hX4.of_all3
  refine s_op (o_move (v := (.tuple #[(.pointer (some ⟨ab3, 0, none⟩)), (.bool true)])) rfl ?_)
  refine s_op (o_extract (v := (.pointer (some ⟨ab3, 0, none⟩))) rfl rfl ?_)
  refine s_op (o_extract (v := (.bool true)) rfl rfl ?_)
  refine s_op (o_assign (v := (.pointer (some ⟨ab3, 0, none⟩))) rfl ?_)
  refine s_op (o_assign (v := (.bool true)) rfl ?_)
  refine s_nil ?_
  refine t_norm (hK2 _ _ ?_)
  refine wp_seq_k fun K7 hK7 => ?_
  refine wp_block ?_
  refine wp_seq_k fun K8 hK8 => ?_
  refine c_region ?_
  refine s_op (o_move (v := (.bool true)) rfl ?_)
  refine s_op (o_not rfl ?_)
  refine s_op (o_assign (v := (.bool false)) rfl ?_)
  refine s_nil ?_
  refine t_norm (hK8 _ _ ?_)
  refine c_false rfl rfl ?_
  refine wp_seq_k fun K9 hK9 => ?_
  refine c_region ?_
  refine s_op (o_move (v := (.pointer (some ⟨db, 0, none⟩))) rfl ?_)
  refine s_op (o_callf (vs := #[(.pointer (some ⟨db, 0, none⟩))]) ca186 rfl (args1 rfl) (don_d (p := d.p) (la := d.la) (lo := d.lo) ((hH5.front 2 rfl).front 2 rfl).all2 hd ) ?_)
  rintro _ w12 ⟨rfl, hX10⟩
  refine ⟨_, rfl, ?_⟩
  have hH11 : Has E w12 [sg, [Hp.one pb (.cells #[(.bool d.p.off), (.bool d.p.armed), (.int .i64 d.p.left), (.int .i64 d.p.uses)] 145 (0, 0))], [Hp.one ab3 (.cells #[(.pointer (some ⟨db, 0, none⟩)), (.int .i64 2), (.int .i64 (((d.la.length : Nat) : Int) - 2))] 265 (0, 0))], R] := hX10.of_all2
  refine s_op (o_not rfl ?_)
  refine s_op (o_assign (v := (.bool (!(!d.p.off)))) rfl ?_)
  refine s_nil ?_
  refine t_norm (hK9 _ _ ?_)
  refine c_condb rfl (fun h13 => ?_) (fun h13 => ?_)
  · -- !(!d.p.off)
    have h13_n : (!d.p.off) = false := by first | simpa using h13 | exact Bool.of_not_eq_true (fun g_ => by rw [g_] at h13; cases h13)
    have h13_n_n : d.p.off = true := by first | simpa using h13_n | exact Bool.of_not_eq_false (fun g_ => by rw [g_] at h13_n; cases h13_n)
    exact absurd h13 (by rw [hon]; decide)
  · -- not: !(!d.p.off)
    have h13_n : (!d.p.off) = true := by first | simpa using h13 | exact Bool.of_not_eq_false (fun g_ => by rw [g_] at h13; cases h13)
    have h13_n_n : d.p.off = false := by first | simpa using h13_n | exact Bool.of_not_eq_true (fun g_ => by rw [g_] at h13_n; cases h13_n)
    refine wp_skip ?_
    refine b_norm ?_
    refine t_norm (hK7 _ _ ?_)
    refine wp_seq_k fun K14 hK14 => ?_
    refine c_region ?_
    refine s_op (o_move (v := (.pointer (some ⟨ab3, 0, none⟩))) rfl ?_)
    refine s_op (o_assign (v := (.pointer (some ⟨ab3, 0, none⟩))) rfl ?_)
    refine s_op (o_assign (v := (.int .i64 0)) rfl ?_)
    refine s_nil ?_
    refine t_norm (hK14 _ _ ?_)
    refine wp_ret ?_
    refine c_ret2 Tryz.results96  (v := (.pointer (some ⟨ab3, 0, none⟩))) rfl (x := (.int .i64 0)) rfl ?_
    have hH15 : Has E w12 [[Hp.one ab3 (.cells #[(.pointer (some ⟨db, 0, none⟩)), (.int .i64 2), (.int .i64 (((d.la.length : Nat) : Int) - 2))] 265 (0, 0))], sg, [Hp.one pb (.cells #[(.bool d.p.off), (.bool d.p.armed), (.int .i64 d.p.left), (.int .i64 d.p.uses)] 145 (0, 0))], R] := ((((hH11.front 3 rfl).front 2 rfl).front 2 rfl).front 3 rfl).first 4 rfl
    exact ⟨_, rfl, hH15⟩
set_option maxHeartbeats 4000000 in
theorem sbegin_off {E w : World} {R sg : List Hp} {pb db : Nat} {d : Dv} (hH : Has E w [sg, [Hp.one pb (.cells #[(.bool d.p.off), (.bool d.p.armed), (.int .i64 d.p.left), (.int .i64 d.p.uses)] 145 (0, 0))], R]) (hd : DevAt pb sg db d.la d.lo) (h4 : d.la.length ≤ 4096) (h3 : 3 ≤ d.la.length) (hoff : d.p.off = true) :
    Calls Tryz.prog 96 #[(.pointer (some ⟨db, 0, none⟩))] w fun e w' => e = .returned (.tuple #[.pointer none, .int .i64 6]) ∧ Has E w' [sg, [Hp.one pb (.cells #[(.bool d.p.off), (.bool d.p.armed), (.int .i64 d.p.left), (.int .i64 d.p.uses)] 145 (0, 0))], R] := by
  refine c_enter (args := [(.pointer (some ⟨db, 0, none⟩))]) Tryz.func96 rfl Tryz.ntmps96 (by simp) ?_
  refine wp_seq_k fun K1 hK1 => ?_
  refine c_region ?_
  refine s_op (o_assign (v := (.pointer none)) rfl ?_)
  refine s_op (o_assign (v := (.int .i64 0)) rfl ?_)
  refine s_nil ?_
  refine t_norm (hK1 _ _ ?_)
  refine wp_seq_k fun K2 hK2 => ?_
  refine c_region ?_
  refine s_op (o_move (v := (.pointer (some ⟨db, 0, none⟩))) rfl ?_)
  refine s_op (o_callf (vs := #[(.pointer (some ⟨db, 0, none⟩))]) ca185 rfl (args1 rfl) (sring_ok ((hH.front 1 rfl).front 1 rfl).all2 hd h4 h3) ?_)
  rintro _ w6 ⟨ab3, rfl, hX4⟩
  refine ⟨_, rfl, ?_⟩
  have hH5 : Has E w6 [[Hp.one ab3 (.cells #[(.pointer (some ⟨db, 0, none⟩)), (.int .i64 2), (.int .i64 (((d.la.length : Nat) : Int) - 2))] 265 (0, 0))], sg, [Hp.one pb (.cells #[(.bool d.p.off), (.bool d.p.armed), (.int .i64 d.p.left), (.int .i64 d.p.uses)] 145 (0, 0))], R] := hX4.of_all3
  refine s_op (o_move (v := (.tuple #[(.pointer (some ⟨ab3, 0, none⟩)), (.bool true)])) rfl ?_)
  refine s_op (o_extract (v := (.pointer (some ⟨ab3, 0, none⟩))) rfl rfl ?_)
  refine s_op (o_extract (v := (.bool true)) rfl rfl ?_)
  refine s_op (o_assign (v := (.pointer (some ⟨ab3, 0, none⟩))) rfl ?_)
  refine s_op (o_assign (v := (.bool true)) rfl ?_)
  refine s_nil ?_
  refine t_norm (hK2 _ _ ?_)
  refine wp_seq_k fun K7 hK7 => ?_
  refine wp_block ?_
  refine wp_seq_k fun K8 hK8 => ?_
  refine c_region ?_
  refine s_op (o_move (v := (.bool true)) rfl ?_)
  refine s_op (o_not rfl ?_)
  refine s_op (o_assign (v := (.bool false)) rfl ?_)
  refine s_nil ?_
  refine t_norm (hK8 _ _ ?_)
  refine c_false rfl rfl ?_
  refine wp_seq_k fun K9 hK9 => ?_
  refine c_region ?_
  refine s_op (o_move (v := (.pointer (some ⟨db, 0, none⟩))) rfl ?_)
  refine s_op (o_callf (vs := #[(.pointer (some ⟨db, 0, none⟩))]) ca186 rfl (args1 rfl) (don_d (p := d.p) (la := d.la) (lo := d.lo) ((hH5.front 2 rfl).front 2 rfl).all2 hd ) ?_)
  rintro _ w12 ⟨rfl, hX10⟩
  refine ⟨_, rfl, ?_⟩
  have hH11 : Has E w12 [sg, [Hp.one pb (.cells #[(.bool d.p.off), (.bool d.p.armed), (.int .i64 d.p.left), (.int .i64 d.p.uses)] 145 (0, 0))], [Hp.one ab3 (.cells #[(.pointer (some ⟨db, 0, none⟩)), (.int .i64 2), (.int .i64 (((d.la.length : Nat) : Int) - 2))] 265 (0, 0))], R] := hX10.of_all2
  refine s_op (o_not rfl ?_)
  refine s_op (o_assign (v := (.bool (!(!d.p.off)))) rfl ?_)
  refine s_nil ?_
  refine t_norm (hK9 _ _ ?_)
  refine c_condb rfl (fun h13 => ?_) (fun h13 => ?_)
  · -- !(!d.p.off)
    have h13_n : (!d.p.off) = false := by first | simpa using h13 | exact Bool.of_not_eq_true (fun g_ => by rw [g_] at h13; cases h13)
    have h13_n_n : d.p.off = true := by first | simpa using h13_n | exact Bool.of_not_eq_false (fun g_ => by rw [g_] at h13_n; cases h13_n)
    refine wp_seq_k fun K14 hK14 => ?_
    refine c_region ?_
    refine s_op (o_assign (v := (.pointer none)) rfl ?_)
    refine s_op (o_assign (v := (.int .i64 6)) rfl ?_)
    refine s_nil ?_
    refine t_norm (hK14 _ _ ?_)
    refine wp_ret ?_
    refine b_ret (t_ret (c_ret2 Tryz.results96  (v := (.pointer none)) rfl (x := (.int .i64 6)) rfl ?_))
    have hH15 : Has E w12 [sg, [Hp.one pb (.cells #[(.bool d.p.off), (.bool d.p.armed), (.int .i64 d.p.left), (.int .i64 d.p.uses)] 145 (0, 0))], R] := (((hH11.front 3 rfl).front 2 rfl).front 2 rfl).first 3 rfl
    exact ⟨rfl, hH15⟩
  · -- not: !(!d.p.off)
    have h13_n : (!d.p.off) = true := by first | simpa using h13 | exact Bool.of_not_eq_false (fun g_ => by rw [g_] at h13; cases h13)
    have h13_n_n : d.p.off = false := by first | simpa using h13_n | exact Bool.of_not_eq_true (fun g_ => by rw [g_] at h13_n; cases h13_n)
    exact absurd h13 (by rw [hoff]; decide)
set_option maxHeartbeats 4000000 in
theorem sbegin_few {E w : World} {R sg : List Hp} {pb db : Nat} {d : Dv} (hH : Has E w [sg, [Hp.one pb (.cells #[(.bool d.p.off), (.bool d.p.armed), (.int .i64 d.p.left), (.int .i64 d.p.uses)] 145 (0, 0))], R]) (hd : DevAt pb sg db d.la d.lo) (h4 : d.la.length ≤ 4096) (h3 : d.la.length < 3) :
    Calls Tryz.prog 96 #[(.pointer (some ⟨db, 0, none⟩))] w fun e w' => e = .returned (.tuple #[.pointer none, .int .i64 1]) ∧ Has E w' [sg, [Hp.one pb (.cells #[(.bool d.p.off), (.bool d.p.armed), (.int .i64 d.p.left), (.int .i64 d.p.uses)] 145 (0, 0))], R] := by
  refine c_enter (args := [(.pointer (some ⟨db, 0, none⟩))]) Tryz.func96 rfl Tryz.ntmps96 (by simp) ?_
  refine wp_seq_k fun K1 hK1 => ?_
  refine c_region ?_
  refine s_op (o_assign (v := (.pointer none)) rfl ?_)
  refine s_op (o_assign (v := (.int .i64 0)) rfl ?_)
  refine s_nil ?_
  refine t_norm (hK1 _ _ ?_)
  refine wp_seq_k fun K2 hK2 => ?_
  refine c_region ?_
  refine s_op (o_move (v := (.pointer (some ⟨db, 0, none⟩))) rfl ?_)
  refine s_op (o_callf (vs := #[(.pointer (some ⟨db, 0, none⟩))]) ca185 rfl (args1 rfl) (sring_few ((hH.front 1 rfl).front 1 rfl).all2 hd h4 h3) ?_)
  rintro _ w5 ⟨rfl, hX3⟩
  refine ⟨_, rfl, ?_⟩
  have hH4 : Has E w5 [sg, [Hp.one pb (.cells #[(.bool d.p.off), (.bool d.p.armed), (.int .i64 d.p.left), (.int .i64 d.p.uses)] 145 (0, 0))], R] := hX3.of_all2
  refine s_op (o_move (v := (.tuple #[(.pointer none), (.bool false)])) rfl ?_)
  refine s_op (o_extract (v := (.pointer none)) rfl rfl ?_)
  refine s_op (o_extract (v := (.bool false)) rfl rfl ?_)
  refine s_op (o_assign (v := (.pointer none)) rfl ?_)
  refine s_op (o_assign (v := (.bool false)) rfl ?_)
  refine s_nil ?_
  refine t_norm (hK2 _ _ ?_)
  refine wp_seq_k fun K6 hK6 => ?_
  refine wp_block ?_
  refine wp_seq_k fun K7 hK7 => ?_
  refine c_region ?_
  refine s_op (o_move (v := (.bool false)) rfl ?_)
  refine s_op (o_not rfl ?_)
  refine s_op (o_assign (v := (.bool true)) rfl ?_)
  refine s_nil ?_
  refine t_norm (hK7 _ _ ?_)
  refine c_true rfl rfl ?_
  refine wp_seq_k fun K8 hK8 => ?_
  refine c_region ?_
  refine s_op (o_assign (v := (.pointer none)) rfl ?_)
  refine s_op (o_assign (v := (.int .i64 1)) rfl ?_)
  refine s_nil ?_
  refine t_norm (hK8 _ _ ?_)
  refine wp_ret ?_
  refine b_ret (t_ret (c_ret2 Tryz.results96  (v := (.pointer none)) rfl (x := (.int .i64 1)) rfl ?_))
  exact ⟨rfl, hH4⟩
set_option maxHeartbeats 4000000 in
theorem sbegin_nil {E w : World} {R : List Hp} (hH : Has E w [R]) :
    Calls Tryz.prog 96 #[(.pointer none)] w fun e w' => e = .returned (.tuple #[.pointer none, .int .i64 1]) ∧ Has E w' [R] := by
  refine c_enter (args := [(.pointer none)]) Tryz.func96 rfl Tryz.ntmps96 (by simp) ?_
  refine wp_seq_k fun K1 hK1 => ?_
  refine c_region ?_
  refine s_op (o_assign (v := (.pointer none)) rfl ?_)
  refine s_op (o_assign (v := (.int .i64 0)) rfl ?_)
  refine s_nil ?_
  refine t_norm (hK1 _ _ ?_)
  refine wp_seq_k fun K2 hK2 => ?_
  refine c_region ?_
  refine s_op (o_move (v := (.pointer none)) rfl ?_)
  refine s_op (o_callf (vs := #[(.pointer none)]) ca185 rfl (args1 rfl) (sring_nil hH.all) ?_)
  rintro _ w5 ⟨rfl, hX3⟩
  refine ⟨_, rfl, ?_⟩
  have hH4 := hX3.of_all
  refine s_op (o_move (v := (.tuple #[(.pointer none), (.bool false)])) rfl ?_)
  refine s_op (o_extract (v := (.pointer none)) rfl rfl ?_)
  refine s_op (o_extract (v := (.bool false)) rfl rfl ?_)
  refine s_op (o_assign (v := (.pointer none)) rfl ?_)
  refine s_op (o_assign (v := (.bool false)) rfl ?_)
  refine s_nil ?_
  refine t_norm (hK2 _ _ ?_)
  refine wp_seq_k fun K6 hK6 => ?_
  refine wp_block ?_
  refine wp_seq_k fun K7 hK7 => ?_
  refine c_region ?_
  refine s_op (o_move (v := (.bool false)) rfl ?_)
  refine s_op (o_not rfl ?_)
  refine s_op (o_assign (v := (.bool true)) rfl ?_)
  refine s_nil ?_
  refine t_norm (hK7 _ _ ?_)
  refine c_true rfl rfl ?_
  refine wp_seq_k fun K8 hK8 => ?_
  refine c_region ?_
  refine s_op (o_assign (v := (.pointer none)) rfl ?_)
  refine s_op (o_assign (v := (.int .i64 1)) rfl ?_)
  refine s_nil ?_
  refine t_norm (hK8 _ _ ?_)
  refine wp_ret ?_
  refine b_ret (t_ret (c_ret2 Tryz.results96  (v := (.pointer none)) rfl (x := (.int .i64 1)) rfl ?_))
  exact ⟨rfl, hH4⟩
set_option maxHeartbeats 4000000 in
theorem sformat_off {E w : World} {R sg : List Hp} {pb db : Nat} {d : Dv} (hH : Has E w [sg, [Hp.one pb (.cells #[(.bool d.p.off), (.bool d.p.armed), (.int .i64 d.p.left), (.int .i64 d.p.uses)] 145 (0, 0))], R]) (hd : DevAt pb sg db d.la d.lo) (h4 : d.la.length ≤ 4096) (h3 : 3 ≤ d.la.length) (hoff : d.p.off = true) :
    Calls Tryz.prog 31 #[(.pointer (some ⟨db, 0, none⟩))] w fun e w' => e = .returned (.tuple #[.pointer none, .int .i64 6]) ∧ Has E w' [sg, [Hp.one pb (.cells #[(.bool d.p.off), (.bool d.p.armed), (.int .i64 d.p.left), (.int .i64 d.p.uses)] 145 (0, 0))], R] := by
  refine c_enter (args := [(.pointer (some ⟨db, 0, none⟩))]) Tryz.func31 rfl Tryz.ntmps31 (by simp) ?_
  refine wp_seq_k fun K1 hK1 => ?_
  refine c_region ?_
  refine s_op (o_assign (v := (.pointer none)) rfl ?_)
  refine s_op (o_assign (v := (.int .i64 0)) rfl ?_)
  refine s_nil ?_
  refine t_norm (hK1 _ _ ?_)
  refine wp_seq_k fun K2 hK2 => ?_
  refine c_region ?_
  refine s_op (o_move (v := (.pointer (some ⟨db, 0, none⟩))) rfl ?_)
  refine s_op (o_callf (vs := #[(.pointer (some ⟨db, 0, none⟩))]) ca96 rfl (args1 rfl) (sbegin_off ((hH.front 1 rfl).front 1 rfl).all2 hd h4 h3 hoff) ?_)
  rintro _ w5 ⟨rfl, hX3⟩
  refine ⟨_, rfl, ?_⟩
  have hH4 : Has E w5 [sg, [Hp.one pb (.cells #[(.bool d.p.off), (.bool d.p.armed), (.int .i64 d.p.left), (.int .i64 d.p.uses)] 145 (0, 0))], R] := hX3.of_all2
  refine s_op (o_move (v := (.tuple #[(.pointer none), (.int .i64 (6 : Int))])) rfl ?_)
  refine s_op (o_extract (v := (.pointer none)) rfl rfl ?_)
  refine s_op (o_extract (v := (.int .i64 (6 : Int))) rfl rfl ?_)
  refine s_op (o_assign (v := (.pointer none)) rfl ?_)
  refine s_op (o_assign (v := (.int .i64 (6 : Int))) rfl ?_)
  refine s_nil ?_
  refine t_norm (hK2 _ _ ?_)
  refine wp_seq_k fun K6 hK6 => ?_
  refine wp_seq_k fun K7 hK7 => ?_
  refine c_region ?_
  refine s_op (o_move (v := (.int .i64 (6 : Int))) rfl ?_)
  refine s_op (o_neq (a := (6 : Int)) (b := 0) rfl rfl ?_)
  refine s_nil ?_
  refine t_norm (hK7 _ _ ?_)
  refine c_cond rfl (fun h8 => ?_) (fun h8 => ?_)
  · -- (6 : Int) ≠ 0
    refine wp_seq_k fun K9 hK9 => ?_
    refine c_region ?_
    refine s_op (o_move (v := (.int .i64 (6 : Int))) rfl ?_)
    refine s_op (o_assign (v := (.pointer none)) rfl ?_)
    refine s_op (o_assign (v := (.int .i64 (6 : Int))) rfl ?_)
    refine s_nil ?_
    refine t_norm (hK9 _ _ ?_)
    refine wp_ret ?_
    refine t_ret (c_ret2 Tryz.results31  (v := (.pointer none)) rfl (x := (.int .i64 (6 : Int))) rfl ?_)
    exact ⟨rfl, hH4⟩
  · -- not: (6 : Int) ≠ 0
    exact absurd h8 (by decide)
set_option maxHeartbeats 4000000 in
theorem sformat_few {E w : World} {R sg : List Hp} {pb db : Nat} {d : Dv} (hH : Has E w [sg, [Hp.one pb (.cells #[(.bool d.p.off), (.bool d.p.armed), (.int .i64 d.p.left), (.int .i64 d.p.uses)] 145 (0, 0))], R]) (hd : DevAt pb sg db d.la d.lo) (h4 : d.la.length ≤ 4096) (h3 : d.la.length < 3) :
    Calls Tryz.prog 31 #[(.pointer (some ⟨db, 0, none⟩))] w fun e w' => e = .returned (.tuple #[.pointer none, .int .i64 1]) ∧ Has E w' [sg, [Hp.one pb (.cells #[(.bool d.p.off), (.bool d.p.armed), (.int .i64 d.p.left), (.int .i64 d.p.uses)] 145 (0, 0))], R] := by
  refine c_enter (args := [(.pointer (some ⟨db, 0, none⟩))]) Tryz.func31 rfl Tryz.ntmps31 (by simp) ?_
  refine wp_seq_k fun K1 hK1 => ?_
  refine c_region ?_
  refine s_op (o_assign (v := (.pointer none)) rfl ?_)
  refine s_op (o_assign (v := (.int .i64 0)) rfl ?_)
  refine s_nil ?_
  refine t_norm (hK1 _ _ ?_)
  refine wp_seq_k fun K2 hK2 => ?_
  refine c_region ?_
  refine s_op (o_move (v := (.pointer (some ⟨db, 0, none⟩))) rfl ?_)
  refine s_op (o_callf (vs := #[(.pointer (some ⟨db, 0, none⟩))]) ca96 rfl (args1 rfl) (sbegin_few ((hH.front 1 rfl).front 1 rfl).all2 hd h4 h3) ?_)
  rintro _ w5 ⟨rfl, hX3⟩
  refine ⟨_, rfl, ?_⟩
  have hH4 : Has E w5 [sg, [Hp.one pb (.cells #[(.bool d.p.off), (.bool d.p.armed), (.int .i64 d.p.left), (.int .i64 d.p.uses)] 145 (0, 0))], R] := hX3.of_all2
  refine s_op (o_move (v := (.tuple #[(.pointer none), (.int .i64 (1 : Int))])) rfl ?_)
  refine s_op (o_extract (v := (.pointer none)) rfl rfl ?_)
  refine s_op (o_extract (v := (.int .i64 (1 : Int))) rfl rfl ?_)
  refine s_op (o_assign (v := (.pointer none)) rfl ?_)
  refine s_op (o_assign (v := (.int .i64 (1 : Int))) rfl ?_)
  refine s_nil ?_
  refine t_norm (hK2 _ _ ?_)
  refine wp_seq_k fun K6 hK6 => ?_
  refine wp_seq_k fun K7 hK7 => ?_
  refine c_region ?_
  refine s_op (o_move (v := (.int .i64 (1 : Int))) rfl ?_)
  refine s_op (o_neq (a := (1 : Int)) (b := 0) rfl rfl ?_)
  refine s_nil ?_
  refine t_norm (hK7 _ _ ?_)
  refine c_cond rfl (fun h8 => ?_) (fun h8 => ?_)
  · -- (1 : Int) ≠ 0
    refine wp_seq_k fun K9 hK9 => ?_
    refine c_region ?_
    refine s_op (o_move (v := (.int .i64 (1 : Int))) rfl ?_)
    refine s_op (o_assign (v := (.pointer none)) rfl ?_)
    refine s_op (o_assign (v := (.int .i64 (1 : Int))) rfl ?_)
    refine s_nil ?_
    refine t_norm (hK9 _ _ ?_)
    refine wp_ret ?_
    refine t_ret (c_ret2 Tryz.results31  (v := (.pointer none)) rfl (x := (.int .i64 (1 : Int))) rfl ?_)
    exact ⟨rfl, hH4⟩
  · -- not: (1 : Int) ≠ 0
    exact absurd h8 (by decide)
set_option maxHeartbeats 4000000 in
theorem sopen_nil {E w : World} {R : List Hp} (hH : Has E w [R]) :
    Calls Tryz.prog 16 #[(.pointer none)] w fun e w' => e = .returned (.tuple #[.pointer none, .int .i64 1]) ∧ Has E w' [R] := by
  refine c_enter (args := [(.pointer none)]) Tryz.func16 rfl Tryz.ntmps16 (by simp) ?_
  refine wp_seq_k fun K1 hK1 => ?_
  refine c_region ?_
  refine s_op (o_assign (v := (.pointer none)) rfl ?_)
  refine s_op (o_assign (v := (.int .i64 0)) rfl ?_)
  refine s_nil ?_
  refine t_norm (hK1 _ _ ?_)
  refine wp_seq_k fun K2 hK2 => ?_
  refine c_region ?_
  refine s_op (o_move (v := (.pointer none)) rfl ?_)
  refine s_op (o_callf (vs := #[(.pointer none)]) ca96 rfl (args1 rfl) (sbegin_nil hH.all) ?_)
  rintro _ w5 ⟨rfl, hX3⟩
  refine ⟨_, rfl, ?_⟩
  have hH4 := hX3.of_all
  refine s_op (o_move (v := (.tuple #[(.pointer none), (.int .i64 (1 : Int))])) rfl ?_)
  refine s_op (o_extract (v := (.pointer none)) rfl rfl ?_)
  refine s_op (o_extract (v := (.int .i64 (1 : Int))) rfl rfl ?_)
  refine s_op (o_assign (v := (.pointer none)) rfl ?_)
  refine s_op (o_assign (v := (.int .i64 (1 : Int))) rfl ?_)
  refine s_nil ?_
  refine t_norm (hK2 _ _ ?_)
  refine wp_seq_k fun K6 hK6 => ?_
  refine wp_seq_k fun K7 hK7 => ?_
  refine c_region ?_
  refine s_op (o_move (v := (.int .i64 (1 : Int))) rfl ?_)
  refine s_op (o_neq (a := (1 : Int)) (b := 0) rfl rfl ?_)
  refine s_nil ?_
  refine t_norm (hK7 _ _ ?_)
  refine c_cond rfl (fun h8 => ?_) (fun h8 => ?_)
  · -- (1 : Int) ≠ 0
    refine wp_seq_k fun K9 hK9 => ?_
    refine c_region ?_
    refine s_op (o_move (v := (.int .i64 (1 : Int))) rfl ?_)
    refine s_op (o_assign (v := (.pointer none)) rfl ?_)
    refine s_op (o_assign (v := (.int .i64 (1 : Int))) rfl ?_)
    refine s_nil ?_
    refine t_norm (hK9 _ _ ?_)
    refine wp_ret ?_
    refine t_ret (c_ret2 Tryz.results16  (v := (.pointer none)) rfl (x := (.int .i64 (1 : Int))) rfl ?_)
    exact ⟨rfl, hH4⟩
  · -- not: (1 : Int) ≠ 0
    exact absurd h8 (by decide)
end Go.Q
namespace Go.Q
open Go.Proofs
set_option linter.unusedVariables false
set_option maxRecDepth 100000
attribute [local irreducible] wpList OK Code.wp
set_option maxHeartbeats 4000000 in
theorem sformat_c {E w : World} {R sg : List Hp} {pb db : Nat} {d : Dv} (hH : Has E w [sg, [Hp.one pb (.cells #[(.bool d.p.off), (.bool d.p.armed), (.int .i64 d.p.left), (.int .i64 d.p.uses)] 145 (0, 0))], R]) (hd : DevAt pb sg db d.la d.lo) {k : Nat} (hf : Few d.p k) (hk : k ≤ 390000) (hlk : LoOk d.lo d.la.length) (h4 : d.la.length ≤ 4096) (h3 : 3 ≤ d.la.length) (hon : d.p.off = false) (hg : CellsAt R 0 0 nibV) (hm : (fmS d).1 = 0) :
    Calls Tryz.prog 31 #[(.pointer (some ⟨db, 0, none⟩))] w fun e w' => ∃ sb ab sg' ss, e = .returned (.tuple #[.pointer (some ⟨sb, 0, none⟩), .int .i64 0]) ∧ DevAt pb sg' db (fmS d).2.2.la (fmS d).2.2.lo ∧ StmAt db ab sb ss (fmV (fmS d).2.1) ∧ Has E w' [ss, [Hp.one ab (.cells #[(.pointer (some ⟨db, 0, none⟩)), (.int .i64 2), (.int .i64 (((d.la.length : Nat) : Int) - 2))] 265 (0, 0))], sg', [Hp.one pb (.cells #[(.bool ((fmS d).2.2).p.off), (.bool ((fmS d).2.2).p.armed), (.int .i64 ((fmS d).2.2).p.left), (.int .i64 ((fmS d).2.2).p.uses)] 145 (0, 0))], R] := by
  refine c_enter (args := [(.pointer (some ⟨db, 0, none⟩))]) Tryz.func31 rfl Tryz.ntmps31 (by simp) ?_
  refine wp_seq_k fun K1 hK1 => ?_
  refine c_region ?_
  refine s_op (o_assign (v := (.pointer none)) rfl ?_)
  refine s_op (o_assign (v := (.int .i64 0)) rfl ?_)
  refine s_nil ?_
  refine t_norm (hK1 _ _ ?_)
  refine wp_seq_k fun K2 hK2 => ?_
  refine c_region ?_
  refine s_op (o_move (v := (.pointer (some ⟨db, 0, none⟩))) rfl ?_)
  refine s_op (o_callf (vs := #[(.pointer (some ⟨db, 0, none⟩))]) ca96 rfl (args1 rfl) (sbegin_ok ((hH.front 1 rfl).front 1 rfl).all2 hd h4 h3 hon) ?_)
  rintro _ w6 ⟨ab3, rfl, hX4⟩
  refine ⟨_, rfl, ?_⟩
  have hH5 : Has E w6 [[Hp.one ab3 (.cells #[(.pointer (some ⟨db, 0, none⟩)), (.int .i64 2), (.int .i64 (((d.la.length : Nat) : Int) - 2))] 265 (0, 0))], sg, [Hp.one pb (.cells #[(.bool d.p.off), (.bool d.p.armed), (.int .i64 d.p.left), (.int .i64 d.p.uses)] 145 (0, 0))], R] := hX4.of_all3
  refine s_op (o_move (v := (.tuple #[(.pointer (some ⟨ab3, 0, none⟩)), (.int .i64 (0 : Int))])) rfl ?_)
  refine s_op (o_extract (v := (.pointer (some ⟨ab3, 0, none⟩))) rfl rfl ?_)
  refine s_op (o_extract (v := (.int .i64 (0 : Int))) rfl rfl ?_)
  refine s_op (o_assign (v := (.pointer (some ⟨ab3, 0, none⟩))) rfl ?_)
  refine s_op (o_assign (v := (.int .i64 (0 : Int))) rfl ?_)
  refine s_nil ?_
  refine t_norm (hK2 _ _ ?_)
  refine wp_seq_k fun K7 hK7 => ?_
  refine wp_seq_k fun K8 hK8 => ?_
  refine c_region ?_
  refine s_op (o_move (v := (.int .i64 (0 : Int))) rfl ?_)
  refine s_op (o_neq (a := (0 : Int)) (b := 0) rfl rfl ?_)
  refine s_nil ?_
  refine t_norm (hK8 _ _ ?_)
  refine c_cond rfl (fun h9 => ?_) (fun h9 => ?_)
  · -- (0 : Int) ≠ 0
    exact absurd h9 (by decide)
  · -- not: (0 : Int) ≠ 0
    refine wp_skip ?_
    refine t_norm (hK7 _ _ ?_)
    refine wp_seq_k fun K10 hK10 => ?_
    refine wp_seq_k fun K11 hK11 => ?_
    refine c_region ?_
    refine s_op (o_move (v := (.pointer (some ⟨db, 0, none⟩))) rfl ?_)
    refine s_op (o_callf (vs := #[(.pointer (some ⟨db, 0, none⟩))]) ca85 rfl (args1 rfl) (sectors_d (p := d.p) (la := d.la) (lo := d.lo) ((hH5.front 2 rfl).front 2 rfl).all2 hd ) ?_)
    rintro _ w14 ⟨rfl, hX12⟩
    refine ⟨_, rfl, ?_⟩
    have hH13 : Has E w14 [sg, [Hp.one pb (.cells #[(.bool d.p.off), (.bool d.p.armed), (.int .i64 d.p.left), (.int .i64 d.p.uses)] 145 (0, 0))], [Hp.one ab3 (.cells #[(.pointer (some ⟨db, 0, none⟩)), (.int .i64 2), (.int .i64 (((d.la.length : Nat) : Int) - 2))] 265 (0, 0))], R] := hX12.of_all2
    refine s_op (o_move (v := (.int .i64 0)) rfl ?_)
    refine s_nil ?_
    refine t_norm (hK11 _ _ ?_)
    refine wp_block ?_
    let I16 : Nat → (Nat → Value) → World → Prop := fun n__ r__ w__ => ∃ (i : Nat) (dc : Dv) (sgc : List Hp), n__ = d.la.length - i ∧ Has E w__ [sgc, [Hp.one pb (.cells #[(.bool dc.p.off), (.bool dc.p.armed), (.int .i64 dc.p.left), (.int .i64 dc.p.uses)] 145 (0, 0))], [Hp.one ab3 (.cells #[(.pointer (some ⟨db, 0, none⟩)), (.int .i64 2), (.int .i64 (((d.la.length : Nat) : Int) - 2))] 265 (0, 0))], R] ∧ (i ≤ d.la.length) ∧ (DevAt pb sgc db dc.la dc.lo) ∧ (Few dc.p (k + i)) ∧ (dc.la.length = d.la.length) ∧ (LoOk dc.lo dc.la.length) ∧ (wrs d (fmtG d.la.length) = wrs dc ((fmtG d.la.length).drop i)) ∧ r__ 0 = (.pointer (some ⟨db, 0, none⟩)) ∧ r__ 4 = (.pointer (some ⟨ab3, 0, none⟩)) ∧ r__ 5 = (.int .i64 (0 : Int)) ∧ r__ 15 = (.bool (decide ((0 : Int) ≠ 0))) ∧ r__ 18 = (.int .i64 ((d.la.length : Nat) : Int)) ∧ r__ 19 = (.int .i64 (i : Int))
    refine c_loop I16 _ ⟨0, d, sg, rfl, hH13, Nat.zero_le _, hd, hf, rfl, hlk, rfl, rfl, rfl, rfl, rfl, rfl, rfl⟩ ?_
    rintro n_ r19 w17 ⟨i, dc, sgc, rfl, hH18, hi, hdc, hfc, hnc, hlc, hst, e15_0, e15_4, e15_5, e15_15, e15_18, e15_19⟩
    refine wp_seq_k fun K20 hK20 => ?_
    refine c_region ?_
    refine s_op (o_lss (a := (i : Int)) (b := ((d.la.length : Nat) : Int)) e15_19 e15_18 ?_)
    refine s_nil ?_
    refine t_norm (hK20 _ _ ?_)
    refine wp_seq_k fun K21 hK21 => ?_
    refine c_cond rfl (fun h22 => ?_) (fun h22 => ?_)
    · -- (i : Int) < ((d.la.length : Nat) : Int)
      refine wp_skip ?_
      refine t_norm (hK21 _ _ ?_)
      refine wp_seq_k fun K23 hK23 => ?_
      refine wp_block ?_
      refine wp_seq_k fun K24 hK24 => ?_
      refine c_region ?_
      refine s_op (o_move (v := (.int .i64 (i : Int))) e15_19 ?_)
      refine s_op (o_assign (v := (.int .i64 (i : Int))) rfl ?_)
      refine s_nil ?_
      refine t_norm (hK24 _ _ ?_)
      refine wp_seq_k fun K25 hK25 => ?_
      refine c_region ?_
      refine s_op (o_move (v := (.pointer (some ⟨db, 0, none⟩))) e15_0 ?_)
      refine s_op (o_move (v := (.int .i64 (i : Int))) rfl ?_)
      refine s_op (o_callf (vs := #[(.pointer (some ⟨db, 0, none⟩)), (.int .i64 (i : Int)), (.slice none 0 0)]) ca122 rfl (args3 rfl rfl rfl) (dv_wr (d := dc) ((hH18.front 1 rfl).front 1 rfl).all2 hdc (hfc.ok (by omega)) (by rw [hnc]; exact h4) (i : Int) (l := ([] : List Bs)) (sl_nil 1) (s := ([] : Bs)) rfl (by simp) (by simp)) ?_)
      rintro _ w30 ⟨sg26, rfl, hd27, hX28⟩
      refine ⟨_, rfl, ?_⟩
      have hH29 : Has E w30 [sg26, [Hp.one pb (.cells #[(.bool (dc.wr (i : Int) ([] : Bs)).p.off), (.bool (dc.wr (i : Int) ([] : Bs)).p.armed), (.int .i64 (dc.wr (i : Int) ([] : Bs)).p.left), (.int .i64 (dc.wr (i : Int) ([] : Bs)).p.uses)] 145 (0, 0))], [Hp.one ab3 (.cells #[(.pointer (some ⟨db, 0, none⟩)), (.int .i64 2), (.int .i64 (((d.la.length : Nat) : Int) - 2))] 265 (0, 0))], R] := hX28.of_all2
      refine s_op (o_assign (v := (.int .i64 (dc.wrE (i : Int) ([] : Bs)))) rfl ?_)
      refine s_nil ?_
      refine t_norm (hK25 _ _ ?_)
      refine wp_seq_k fun K31 hK31 => ?_
      refine c_region ?_
      refine s_op (o_move (v := (.int .i64 (dc.wrE (i : Int) ([] : Bs)))) rfl ?_)
      refine s_op (o_neq (a := dc.wrE (i : Int) ([] : Bs)) (b := 0) rfl rfl ?_)
      refine s_nil ?_
      refine t_norm (hK31 _ _ ?_)
      refine c_cond rfl (fun h32 => ?_) (fun h32 => ?_)
      · -- dc.wrE (i : Int) ([] : Bs) ≠ 0
        have hr_ := wrs_stop (fmtG_at (by omega)) hst h32
        exact absurd hm (by unfold fmS; rw [hr_, if_pos (show (dc.wrE (i : Int) []) ≠ 0 from h32)]; exact h32)
      · -- not: dc.wrE (i : Int) ([] : Bs) ≠ 0
        refine wp_skip ?_
        refine b_norm ?_
        refine t_norm (hK23 _ _ ?_)
        refine c_region ?_
        refine s_op (o_add (a := (i : Int)) (b := 1) e15_19 rfl (w64 (by omega) (by omega)) ?_)
        refine s_op (o_move (v := (.int .i64 ((i : Int) + 1))) rfl ?_)
        refine s_nil ?_
        refine t_norm ⟨d.la.length - (i + 1), _, rfl, ?_, ?_⟩
        · omega
        · exact ⟨(i + 1), (dc.wr (i : Int) ([] : Bs)), sg26, rfl, hH29, (by omega), (hd27), (hfc.use), (hnc), (hlc.write _ _ _), (wrs_go (fmtG_at (by omega)) hst (Classical.not_not.1 h32)), e15_0, e15_4, e15_5, e15_15, e15_18, rfl⟩
    · -- not: (i : Int) < ((d.la.length : Nat) : Int)
      refine wp_exit ?_
      refine t_exit (t_exit (x_in (?_)))
      refine t_norm (hK10 _ _ ?_)
      refine wp_seq_k fun K33 hK33 => ?_
      refine c_region ?_
      refine s_op (o_move (v := (.pointer (some ⟨db, 0, none⟩))) e15_0 ?_)
      refine s_op (o_sight (v := (.agg #[(.int .i64 0), (.int .i64 1), (.int .i64 0), (.int .i64 0), (.int .i64 0)])) (fun _ => by kernel_rfl) ?_)
      refine s_op (o_callf (vs := #[(.pointer (some ⟨db, 0, none⟩)), (.int .i64 0), (.agg #[(.int .i64 0), (.int .i64 1), (.int .i64 0), (.int .i64 0), (.int .i64 0)])]) ca123 rfl (args3 rfl rfl rfl) (hsv_c (d := dc) ((hH18.front 1 rfl).front 1 rfl).all2 hdc hfc (by omega) hlc (by rw [hnc]; exact h4) (hg.mono (seg_sub 1 rfl)) 0 (h := (Hd.mk 0 1 0 0 0))) ?_)
      rintro _ w38 ⟨sg34, rfl, hd35, hX36⟩
      refine ⟨_, rfl, ?_⟩
      have hH37 : Has E w38 [sg34, [Hp.one pb (.cells #[(.bool ((svD dc 0 (Hd.mk 0 1 0 0 0)).2.2).p.off), (.bool ((svD dc 0 (Hd.mk 0 1 0 0 0)).2.2).p.armed), (.int .i64 ((svD dc 0 (Hd.mk 0 1 0 0 0)).2.2).p.left), (.int .i64 ((svD dc 0 (Hd.mk 0 1 0 0 0)).2.2).p.uses)] 145 (0, 0))], [Hp.one ab3 (.cells #[(.pointer (some ⟨db, 0, none⟩)), (.int .i64 2), (.int .i64 (((d.la.length : Nat) : Int) - 2))] 265 (0, 0))], R] := hX36.of_all2
      refine s_op (o_move (v := (.tuple #[(.agg #[(.int .i64 ((svD dc 0 (Hd.mk 0 1 0 0 0)).2.1).seq), (.int .i64 ((svD dc 0 (Hd.mk 0 1 0 0 0)).2.1).ep), (.int .i64 ((svD dc 0 (Hd.mk 0 1 0 0 0)).2.1).cut), (.int .i64 ((svD dc 0 (Hd.mk 0 1 0 0 0)).2.1).st), (.int .i64 ((svD dc 0 (Hd.mk 0 1 0 0 0)).2.1).mrk)]), (.int .i64 ((svD dc 0 (Hd.mk 0 1 0 0 0)).1))])) rfl ?_)
      refine s_op (o_extract (v := (.agg #[(.int .i64 ((svD dc 0 (Hd.mk 0 1 0 0 0)).2.1).seq), (.int .i64 ((svD dc 0 (Hd.mk 0 1 0 0 0)).2.1).ep), (.int .i64 ((svD dc 0 (Hd.mk 0 1 0 0 0)).2.1).cut), (.int .i64 ((svD dc 0 (Hd.mk 0 1 0 0 0)).2.1).st), (.int .i64 ((svD dc 0 (Hd.mk 0 1 0 0 0)).2.1).mrk)])) rfl rfl ?_)
      refine s_op (o_extract (v := (.int .i64 ((svD dc 0 (Hd.mk 0 1 0 0 0)).1))) rfl rfl ?_)
      refine s_op (o_alloc (cs := #[(.int .i64 0), (.int .i64 0), (.int .i64 0), (.int .i64 0), (.int .i64 0)]) ti23 rfl hH37 fun b39 w40 hH41 => ?_)
      refine s_eff (o_storeN (vs := [(.int .i64 ((svD dc 0 (Hd.mk 0 1 0 0 0)).2.1).seq), (.int .i64 ((svD dc 0 (Hd.mk 0 1 0 0 0)).2.1).ep), (.int .i64 ((svD dc 0 (Hd.mk 0 1 0 0 0)).2.1).cut), (.int .i64 ((svD dc 0 (Hd.mk 0 1 0 0 0)).2.1).st), (.int .i64 ((svD dc 0 (Hd.mk 0 1 0 0 0)).2.1).mrk)]) (c' := #[(.int .i64 ((svD dc 0 (Hd.mk 0 1 0 0 0)).2.1).seq), (.int .i64 ((svD dc 0 (Hd.mk 0 1 0 0 0)).2.1).ep), (.int .i64 ((svD dc 0 (Hd.mk 0 1 0 0 0)).2.1).cut), (.int .i64 ((svD dc 0 (Hd.mk 0 1 0 0 0)).2.1).st), (.int .i64 ((svD dc 0 (Hd.mk 0 1 0 0 0)).2.1).mrk)]) ti23 rfl rfl rfl rfl (by intro u hu; simp only [List.mem_cons, List.not_mem_nil, or_false] at hu; rcases hu with rfl | rfl | rfl | rfl | rfl <;> first | rfl) (by simp) (by kernel_rfl) (hH41.front 0 rfl) fun w42 hH43 => ?_)
      refine s_op (o_assign (v := (.int .i64 ((svD dc 0 (Hd.mk 0 1 0 0 0)).1))) rfl ?_)
      refine s_nil ?_
      refine t_norm (hK33 _ _ ?_)
      refine wp_seq_k fun K44 hK44 => ?_
      refine wp_seq_k fun K45 hK45 => ?_
      refine c_region ?_
      refine s_op (o_move (v := (.int .i64 ((svD dc 0 (Hd.mk 0 1 0 0 0)).1))) rfl ?_)
      refine s_op (o_neq (a := (svD dc 0 (Hd.mk 0 1 0 0 0)).1) (b := 0) rfl rfl ?_)
      refine s_nil ?_
      refine t_norm (hK45 _ _ ?_)
      refine c_cond rfl (fun h46 => ?_) (fun h46 => ?_)
      · -- (svD dc 0 (Hd.mk 0 1 0 0 0)).1 ≠ 0
        have hr_ : wrs d (fmtG d.la.length) = (0, dc) := wrs_last hst (by rw [fmtG_len]; omega)
        have hW_ : (fmS d) = svD dc 0 ⟨0, 1, 0, 0, 0⟩ := by unfold fmS; rw [hr_, if_neg (fun g_ => g_ rfl)]
        exact absurd hm (by rw [hW_]; exact h46)
      · -- not: (svD dc 0 (Hd.mk 0 1 0 0 0)).1 ≠ 0
        have hr_ : wrs d (fmtG d.la.length) = (0, dc) := wrs_last hst (by rw [fmtG_len]; omega)
        have hW_ : (fmS d) = svD dc 0 ⟨0, 1, 0, 0, 0⟩ := by unfold fmS; rw [hr_, if_neg (fun g_ => g_ rfl)]
        refine wp_skip ?_
        refine t_norm (hK44 _ _ ?_)
        refine wp_seq_k fun K47 hK47 => ?_
        refine c_region ?_
        refine s_op (o_loadN (cs := [(.int .i64 ((svD dc 0 (Hd.mk 0 1 0 0 0)).2.1).seq), (.int .i64 ((svD dc 0 (Hd.mk 0 1 0 0 0)).2.1).ep), (.int .i64 ((svD dc 0 (Hd.mk 0 1 0 0 0)).2.1).cut), (.int .i64 ((svD dc 0 (Hd.mk 0 1 0 0 0)).2.1).st), (.int .i64 ((svD dc 0 (Hd.mk 0 1 0 0 0)).2.1).mrk)]) Tryz.underlying23 rfl ti23 rfl hH43 (seg_sub 0 rfl) (CellsAt.one rfl) ?_)
        refine s_op (o_sight (v := (.agg #[(.int .i64 ((svD dc 0 (Hd.mk 0 1 0 0 0)).2.1).seq), (.int .i64 ((svD dc 0 (Hd.mk 0 1 0 0 0)).2.1).ep), (.int .i64 ((svD dc 0 (Hd.mk 0 1 0 0 0)).2.1).cut), (.int .i64 ((svD dc 0 (Hd.mk 0 1 0 0 0)).2.1).st), (.int .i64 ((svD dc 0 (Hd.mk 0 1 0 0 0)).2.1).mrk)])) (fun _ => by kernel_rfl) ?_)
        refine s_op (o_move (v := (.pointer (some ⟨db, 0, none⟩))) e15_0 ?_)
        refine s_op (o_move (v := (.pointer (some ⟨ab3, 0, none⟩))) e15_4 ?_)
        refine s_op (o_sight (v := (.agg #[(.int .i64 ((svD dc 0 (Hd.mk 0 1 0 0 0)).2.1).seq), (.int .i64 ((svD dc 0 (Hd.mk 0 1 0 0 0)).2.1).ep), (.int .i64 ((svD dc 0 (Hd.mk 0 1 0 0 0)).2.1).cut), (.int .i64 ((svD dc 0 (Hd.mk 0 1 0 0 0)).2.1).st), (.int .i64 ((svD dc 0 (Hd.mk 0 1 0 0 0)).2.1).mrk), (.pointer (some ⟨db, 0, none⟩)), (.pointer (some ⟨ab3, 0, none⟩)), (.slice none 0 0), (.int .i64 0), (.int .i64 0), (.int .i64 0), (.bool true), (.int .i64 0)])) (fun _ => by kernel_rfl) ?_)
        refine s_op (o_box (cs := #[(.int .i64 ((svD dc 0 (Hd.mk 0 1 0 0 0)).2.1).seq), (.int .i64 ((svD dc 0 (Hd.mk 0 1 0 0 0)).2.1).ep), (.int .i64 ((svD dc 0 (Hd.mk 0 1 0 0 0)).2.1).cut), (.int .i64 ((svD dc 0 (Hd.mk 0 1 0 0 0)).2.1).st), (.int .i64 ((svD dc 0 (Hd.mk 0 1 0 0 0)).2.1).mrk), (.pointer (some ⟨db, 0, none⟩)), (.pointer (some ⟨ab3, 0, none⟩)), (.slice none 0 0), (.int .i64 0), (.int .i64 0), (.int .i64 0), (.bool true), (.int .i64 0)]) rfl rfl hH43 fun b48 w49 hH50 => ?_)
        refine s_op (o_assign (v := (.pointer (some ⟨b48, 0, none⟩))) rfl ?_)
        refine s_op (o_assign (v := (.int .i64 0)) rfl ?_)
        refine s_nil ?_
        refine t_norm (hK47 _ _ ?_)
        refine wp_ret ?_
        refine c_ret2 Tryz.results31  (v := (.pointer (some ⟨b48, 0, none⟩))) rfl (x := (.int .i64 0)) rfl ?_
        have hH51 := Has.nil hH50
        have hH52 : Has E w49 [([Hp.one b48 (.cells #[(.int .i64 ((svD dc 0 (Hd.mk 0 1 0 0 0)).2.1).seq), (.int .i64 ((svD dc 0 (Hd.mk 0 1 0 0 0)).2.1).ep), (.int .i64 ((svD dc 0 (Hd.mk 0 1 0 0 0)).2.1).cut), (.int .i64 ((svD dc 0 (Hd.mk 0 1 0 0 0)).2.1).st), (.int .i64 ((svD dc 0 (Hd.mk 0 1 0 0 0)).2.1).mrk), (.pointer (some ⟨db, 0, none⟩)), (.pointer (some ⟨ab3, 0, none⟩)), (.slice none 0 0), (.int .i64 0), (.int .i64 0), (.int .i64 0), (.bool true), (.int .i64 0)] 175 (0, 0))] ++ []), [Hp.one b39 (.cells #[(.int .i64 ((svD dc 0 (Hd.mk 0 1 0 0 0)).2.1).seq), (.int .i64 ((svD dc 0 (Hd.mk 0 1 0 0 0)).2.1).ep), (.int .i64 ((svD dc 0 (Hd.mk 0 1 0 0 0)).2.1).cut), (.int .i64 ((svD dc 0 (Hd.mk 0 1 0 0 0)).2.1).st), (.int .i64 ((svD dc 0 (Hd.mk 0 1 0 0 0)).2.1).mrk)] 23 (0, 0))], sg34, [Hp.one pb (.cells #[(.bool ((svD dc 0 (Hd.mk 0 1 0 0 0)).2.2).p.off), (.bool ((svD dc 0 (Hd.mk 0 1 0 0 0)).2.2).p.armed), (.int .i64 ((svD dc 0 (Hd.mk 0 1 0 0 0)).2.2).p.left), (.int .i64 ((svD dc 0 (Hd.mk 0 1 0 0 0)).2.2).p.uses)] 145 (0, 0))], [Hp.one ab3 (.cells #[(.pointer (some ⟨db, 0, none⟩)), (.int .i64 2), (.int .i64 (((d.la.length : Nat) : Int) - 2))] 265 (0, 0))], R] := Has.cl2 (hH51.front 1 rfl)
        have hd53 : StmAt db ab3 b48 ([Hp.one b48 (.cells #[(.int .i64 ((svD dc 0 (Hd.mk 0 1 0 0 0)).2.1).seq), (.int .i64 ((svD dc 0 (Hd.mk 0 1 0 0 0)).2.1).ep), (.int .i64 ((svD dc 0 (Hd.mk 0 1 0 0 0)).2.1).cut), (.int .i64 ((svD dc 0 (Hd.mk 0 1 0 0 0)).2.1).st), (.int .i64 ((svD dc 0 (Hd.mk 0 1 0 0 0)).2.1).mrk), (.pointer (some ⟨db, 0, none⟩)), (.pointer (some ⟨ab3, 0, none⟩)), (.slice none 0 0), (.int .i64 0), (.int .i64 0), (.int .i64 0), (.bool true), (.int .i64 0)] 175 (0, 0))] ++ []) (⟨((svD dc 0 (Hd.mk 0 1 0 0 0)).2.1).seq, ((svD dc 0 (Hd.mk 0 1 0 0 0)).2.1).ep, ((svD dc 0 (Hd.mk 0 1 0 0 0)).2.1).cut, ((svD dc 0 (Hd.mk 0 1 0 0 0)).2.1).st, ((svD dc 0 (Hd.mk 0 1 0 0 0)).2.1).mrk, ([] : List LEnt), 0, 0, 0, true, 0⟩ : StmS) := StmAt.mk (v := (⟨((svD dc 0 (Hd.mk 0 1 0 0 0)).2.1).seq, ((svD dc 0 (Hd.mk 0 1 0 0 0)).2.1).ep, ((svD dc 0 (Hd.mk 0 1 0 0 0)).2.1).cut, ((svD dc 0 (Hd.mk 0 1 0 0 0)).2.1).st, ((svD dc 0 (Hd.mk 0 1 0 0 0)).2.1).mrk, ([] : List LEnt), 0, 0, 0, true, 0⟩ : StmS)) (OwnL.nil 42 3)
        have hH54 : Has E w49 [([Hp.one b48 (.cells #[(.int .i64 ((svD dc 0 (Hd.mk 0 1 0 0 0)).2.1).seq), (.int .i64 ((svD dc 0 (Hd.mk 0 1 0 0 0)).2.1).ep), (.int .i64 ((svD dc 0 (Hd.mk 0 1 0 0 0)).2.1).cut), (.int .i64 ((svD dc 0 (Hd.mk 0 1 0 0 0)).2.1).st), (.int .i64 ((svD dc 0 (Hd.mk 0 1 0 0 0)).2.1).mrk), (.pointer (some ⟨db, 0, none⟩)), (.pointer (some ⟨ab3, 0, none⟩)), (.slice none 0 0), (.int .i64 0), (.int .i64 0), (.int .i64 0), (.bool true), (.int .i64 0)] 175 (0, 0))] ++ []), [Hp.one ab3 (.cells #[(.pointer (some ⟨db, 0, none⟩)), (.int .i64 2), (.int .i64 (((d.la.length : Nat) : Int) - 2))] 265 (0, 0))], sg34, [Hp.one pb (.cells #[(.bool ((svD dc 0 (Hd.mk 0 1 0 0 0)).2.2).p.off), (.bool ((svD dc 0 (Hd.mk 0 1 0 0 0)).2.2).p.armed), (.int .i64 ((svD dc 0 (Hd.mk 0 1 0 0 0)).2.2).p.left), (.int .i64 ((svD dc 0 (Hd.mk 0 1 0 0 0)).2.2).p.uses)] 145 (0, 0))], R] := (((((hH52.front 5 rfl).front 4 rfl).front 4 rfl).front 5 rfl).front 4 rfl).first 5 rfl
        exact ⟨_, _, _, _, rfl, by rw [hW_]; exact hd35, by rw [hW_]; exact hd53, by rw [hW_]; exact hH54⟩
end Go.Q
namespace Go.Q
open Go.Proofs
set_option linter.unusedVariables false
set_option maxRecDepth 100000
attribute [local irreducible] wpList OK Code.wp
set_option maxHeartbeats 4000000 in
theorem dget_c {E w : World} {R sg : List Hp} {pb db ab : Nat} {d : Dv} {fr n : Int} (hH : Has E w [sg, [Hp.one pb (.cells #[(.bool d.p.off), (.bool d.p.armed), (.int .i64 d.p.left), (.int .i64 d.p.uses)] 145 (0, 0))], [Hp.one ab (.cells #[(.pointer (some ⟨db, 0, none⟩)), (.int .i64 fr), (.int .i64 n)] 265 (0, 0))], R]) (hd : DevAt pb sg db d.la d.lo) (h4 : d.la.length ≤ 4096) (h64 : Full64 d.la) (hlk : LoOk d.lo d.la.length) (hfr : 0 ≤ fr) (hn : 1 ≤ n) (hfn : fr + n ≤ d.la.length) (hon : d.p.off = false) {at_ : Int} (hat : 0 ≤ at_ ∧ at_ ≤ 4611686018427387904) {size : Int} (hsz : 0 ≤ size ∧ size ≤ n * 64) :
    Calls Tryz.prog 98 #[(.pointer (some ⟨ab, 0, none⟩)), (.int .i64 at_), (.int .i64 size)] w fun e w' => e = .returned (.tuple #[S (getP d.la d.lo (allP fr (n * 64) (at_ % (n * 64)) size)), .int .i64 0]) ∧ Has E w' [sg, [Hp.one pb (.cells #[(.bool d.p.off), (.bool d.p.armed), (.int .i64 d.p.left), (.int .i64 d.p.uses)] 145 (0, 0))], [Hp.one ab (.cells #[(.pointer (some ⟨db, 0, none⟩)), (.int .i64 fr), (.int .i64 n)] 265 (0, 0))], R] := by
  obtain ⟨hat1, hat2⟩ := hat
  obtain ⟨hsz1, hsz2⟩ := hsz
  refine c_enter (args := [(.pointer (some ⟨ab, 0, none⟩)), (.int .i64 at_), (.int .i64 size)]) Tryz.func98 rfl Tryz.ntmps98 (by simp) ?_
  refine wp_seq_k fun K1 hK1 => ?_
  refine c_region ?_
  refine s_op (o_assign (v := (S ([] : List UInt8))) rfl ?_)
  refine s_op (o_assign (v := (.int .i64 0)) rfl ?_)
  refine s_nil ?_
  refine t_norm (hK1 _ _ ?_)
  refine wp_seq_k fun K2 hK2 => ?_
  refine wp_seq_k fun K3 hK3 => ?_
  refine c_region ?_
  refine s_op (o_move (v := (.pointer (some ⟨ab, 0, none⟩))) rfl ?_)
  refine s_op (o_move (v := (.int .i64 at_)) rfl ?_)
  refine s_op (o_move (v := (.int .i64 size)) rfl ?_)
  refine s_op (o_callf (vs := #[(.pointer (some ⟨ab, 0, none⟩)), (.int .i64 at_), (.int .i64 size)]) ca191 rfl (args3 rfl rfl rfl) (amay_c (hH.front 2 rfl).all1 ⟨by omega, by omega⟩ at_ size) ?_)
  rintro _ w6 ⟨rfl, hX4⟩
  refine ⟨_, rfl, ?_⟩
  have hH5 : Has E w6 [[Hp.one ab (.cells #[(.pointer (some ⟨db, 0, none⟩)), (.int .i64 fr), (.int .i64 n)] 265 (0, 0))], sg, [Hp.one pb (.cells #[(.bool d.p.off), (.bool d.p.armed), (.int .i64 d.p.left), (.int .i64 d.p.uses)] 145 (0, 0))], R] := hX4.of_all1
  refine s_op (o_not2 (b := decide (0 ≤ at_ ∧ at_ ≤ 4611686018427387904 ∧ 0 ≤ size ∧ size ≤ n * 64)) (b' := decide (¬ (0 ≤ at_ ∧ at_ ≤ 4611686018427387904 ∧ 0 ≤ size ∧ size ≤ n * 64))) rfl not_dec ?_)
  refine s_nil ?_
  refine t_norm (hK3 _ _ ?_)
  refine c_cond rfl (fun h7 => ?_) (fun h7 => ?_)
  · -- ¬ (0 ≤ at_ ∧ at_ ≤ 4611686018427387904 ∧ 0 ≤ size ∧ size ≤ n * 64)
    exact absurd (show _ ∧ _ ∧ _ ∧ _ from ⟨by omega, by omega, by omega, by omega⟩) h7
  · -- not: ¬ (0 ≤ at_ ∧ at_ ≤ 4611686018427387904 ∧ 0 ≤ size ∧ size ≤ n * 64)
    refine wp_skip ?_
    refine t_norm (hK2 _ _ ?_)
    refine wp_seq_k fun K8 hK8 => ?_
    refine wp_seq_k fun K9 hK9 => ?_
    refine c_region ?_
    refine s_op (o_move (v := (.pointer (some ⟨ab, 0, none⟩))) rfl ?_)
    refine s_op (o_nilCheck rfl ?_)
    refine s_op (o_fieldAddr (k := 0) (fun _ => by kernel_rfl) rfl ?_)
    refine s_op (o_load1 (v := (.pointer (some ⟨db, 0, none⟩))) Tryz.underlying25 rfl rfl hH5 (seg_sub 0 rfl) (CellsAt.one rfl) ?_)
    refine s_op (o_callf (vs := #[(.pointer (some ⟨db, 0, none⟩))]) ca186 rfl (args1 rfl) (don_d (p := d.p) (la := d.la) (lo := d.lo) ((hH5.front 2 rfl).front 2 rfl).all2 hd ) ?_)
    rintro _ w12 ⟨rfl, hX10⟩
    refine ⟨_, rfl, ?_⟩
    have hH11 : Has E w12 [sg, [Hp.one pb (.cells #[(.bool d.p.off), (.bool d.p.armed), (.int .i64 d.p.left), (.int .i64 d.p.uses)] 145 (0, 0))], [Hp.one ab (.cells #[(.pointer (some ⟨db, 0, none⟩)), (.int .i64 fr), (.int .i64 n)] 265 (0, 0))], R] := hX10.of_all2
    refine s_op (o_not rfl ?_)
    refine s_nil ?_
    refine t_norm (hK9 _ _ ?_)
    refine c_condb rfl (fun h13 => ?_) (fun h13 => ?_)
    · -- !(!d.p.off)
      have h13_n : (!d.p.off) = false := by first | simpa using h13 | exact Bool.of_not_eq_true (fun g_ => by rw [g_] at h13; cases h13)
      have h13_n_n : d.p.off = true := by first | simpa using h13_n | exact Bool.of_not_eq_false (fun g_ => by rw [g_] at h13_n; cases h13_n)
      exact absurd h13 (by rw [hon]; decide)
    · -- not: !(!d.p.off)
      have h13_n : (!d.p.off) = true := by first | simpa using h13 | exact Bool.of_not_eq_false (fun g_ => by rw [g_] at h13; cases h13)
      have h13_n_n : d.p.off = false := by first | simpa using h13_n | exact Bool.of_not_eq_true (fun g_ => by rw [g_] at h13_n; cases h13_n)
      refine wp_skip ?_
      refine t_norm (hK8 _ _ ?_)
      refine wp_seq_k fun K14 hK14 => ?_
      refine c_region ?_
      refine s_op (o_alloc (cs := #[(.pointer none), (.slice none 0 0)]) ti249 rfl hH11 fun b15 w16 hH17 => ?_)
      refine s_nil ?_
      refine t_norm (hK14 _ _ ?_)
      refine wp_seq_k fun K18 hK18 => ?_
      refine wp_seq_k fun K19 hK19 => ?_
      refine c_region ?_
      refine s_op (o_move (v := (.pointer (some ⟨ab, 0, none⟩))) rfl ?_)
      refine s_op (o_move (v := (.int .i64 at_)) rfl ?_)
      refine s_op (o_move (v := (.int .i64 size)) rfl ?_)
      refine s_op (o_callf (vs := #[(.pointer (some ⟨ab, 0, none⟩)), (.int .i64 at_), (.int .i64 size)]) ca192 rfl (args3 rfl rfl rfl) (pieces_c (hH17.front 3 rfl).all1 ⟨by omega, by omega⟩ ⟨by omega, by omega⟩ (at_ := at_) (size := size) ⟨by omega, by omega⟩ ⟨by omega, by omega⟩) ?_)
      rintro _ w25 ⟨v20, s21, rfl, ho22, hX23⟩
      refine ⟨_, rfl, ?_⟩
      have hH24 : Has E w25 [s21, [Hp.one ab (.cells #[(.pointer (some ⟨db, 0, none⟩)), (.int .i64 fr), (.int .i64 n)] 265 (0, 0))], [Hp.one b15 (.cells #[(.pointer none), (.slice none 0 0)] 249 (0, 0))], sg, [Hp.one pb (.cells #[(.bool d.p.off), (.bool d.p.armed), (.int .i64 d.p.left), (.int .i64 d.p.uses)] 145 (0, 0))], R] := hX23.of_all2
      refine s_op (o_lenS Tryz.underlying266 rfl ho22.sl ?_)
      refine s_op (o_move (v := (.int .i64 0)) rfl ?_)
      refine s_nil ?_
      refine t_norm (hK19 _ _ ?_)
      refine wp_block ?_
      have hpl := pieces_count (fr := fr) (L := n * 64) size.toNat (at_ % (n * 64)) size
      have hpk := pieces_ok (fr := fr) (n := n) (by omega) size.toNat (at_ % (n * 64)) size (Int.emod_nonneg _ (by omega)) (Int.emod_lt_of_pos _ (by omega))
      have hpe : (allP fr (n * 64) (at_ % (n * 64)) size).length ≤ size.toNat := hpl
      let I27 : Nat → (Nat → Value) → World → Prop := fun n__ r__ w__ => ∃ (j : Nat) (sgB : List Hp) (acc : Bs), n__ = (allP fr (n * 64) (at_ % (n * 64)) size).length - j ∧ Has E w__ [sgB, s21, [Hp.one ab (.cells #[(.pointer (some ⟨db, 0, none⟩)), (.int .i64 fr), (.int .i64 n)] 265 (0, 0))], sg, [Hp.one pb (.cells #[(.bool d.p.off), (.bool d.p.armed), (.int .i64 d.p.left), (.int .i64 d.p.uses)] 145 (0, 0))], R] ∧ (j ≤ (allP fr (n * 64) (at_ % (n * 64)) size).length) ∧ (Bld b15 acc sgB) ∧ (acc.length ≤ j * 64) ∧ (acc = getP d.la d.lo ((allP fr (n * 64) (at_ % (n * 64)) size).take j)) ∧ r__ 0 = (.pointer (some ⟨ab, 0, none⟩)) ∧ r__ 1 = (.int .i64 at_) ∧ r__ 2 = (.int .i64 size) ∧ r__ 8 = (.pointer (some ⟨b15, 0, none⟩)) ∧ r__ 17 = (.bool (decide (¬ (0 ≤ at_ ∧ at_ ≤ 4611686018427387904 ∧ 0 ≤ size ∧ size ≤ n * 64)))) ∧ r__ 23 = (.bool (!(!d.p.off))) ∧ r__ 27 = v20 ∧ r__ 28 = (.int .i64 (((allP fr (n * 64) (at_ % (n * 64)) size).length : Nat) : Int)) ∧ r__ 29 = (.int .i64 (j : Int))
      have hH28 : Has E w25 [[Hp.one b15 (.cells #[(.pointer none), (.slice none 0 0)] 249 (0, 0))], s21, [Hp.one ab (.cells #[(.pointer (some ⟨db, 0, none⟩)), (.int .i64 fr), (.int .i64 n)] 265 (0, 0))], sg, [Hp.one pb (.cells #[(.bool d.p.off), (.bool d.p.armed), (.int .i64 d.p.left), (.int .i64 d.p.uses)] 145 (0, 0))], R] := Has.pick hH24 [2, 0, 0, 0, 0, 0] (by kernel_rfl)
      refine c_loop I27 _ ⟨0, [Hp.one b15 (.cells #[(.pointer none), (.slice none 0 0)] 249 (0, 0))], ([] : Bs), rfl, hH28, Nat.zero_le _, Bld.new _, (by simp), (by rfl), rfl, rfl, rfl, rfl, rfl, rfl, rfl, rfl, rfl⟩ ?_
      rintro n_ r31 w29 ⟨j, sgB, acc, rfl, hH30, hj, hB, hal, hacc, e26_0, e26_1, e26_2, e26_8, e26_17, e26_23, e26_27, e26_28, e26_29⟩
      refine wp_seq_k fun K32 hK32 => ?_
      refine c_region ?_
      refine s_op (o_lss (a := (j : Int)) (b := (((allP fr (n * 64) (at_ % (n * 64)) size).length : Nat) : Int)) e26_29 e26_28 ?_)
      refine s_nil ?_
      refine t_norm (hK32 _ _ ?_)
      refine wp_seq_k fun K33 hK33 => ?_
      refine c_cond rfl (fun h34 => ?_) (fun h34 => ?_)
      · -- (j : Int) < (((allP fr (n * 64) (at_ % (n * 64)) size).length : Nat) : Int)
        refine wp_skip ?_
        refine t_norm (hK33 _ _ ?_)
        refine wp_seq_k fun K35 hK35 => ?_
        refine wp_block ?_
        refine wp_seq_k fun K36 hK36 => ?_
        refine c_region ?_
        obtain ⟨x40, hx41⟩ : ∃ x_, (allP fr (n * 64) (at_ % (n * 64)) size)[((j : Int)).toNat]? = some x_ := get_some (by omega)
        refine s_op (o_indexF pcC_len Tryz.underlying266 ti269 e26_27 ho22.sl rfl e26_29 (by omega) hx41 fun b37 o38 hc39 => ?_)
        refine s_op (o_loadN (cs := [(.int .i64 x40.sec), (.int .i64 x40.frm), (.int .i64 x40.upto)]) Tryz.underlying269 rfl ti269 rfl hH30 (seg_sub 1 rfl) hc39 ?_)
        refine s_op (o_alloc (cs := #[(.int .i64 0), (.int .i64 0), (.int .i64 0)]) ti269 rfl hH30 fun b42 w43 hH44 => ?_)
        refine s_eff (o_storeN (vs := [(.int .i64 x40.sec), (.int .i64 x40.frm), (.int .i64 x40.upto)]) (c' := #[(.int .i64 x40.sec), (.int .i64 x40.frm), (.int .i64 x40.upto)]) ti269 rfl rfl rfl rfl (by intro u hu; simp only [List.mem_cons, List.not_mem_nil, or_false] at hu; rcases hu with rfl | rfl | rfl <;> first | rfl) (by simp) (by kernel_rfl) (hH44.front 0 rfl) fun w45 hH46 => ?_)
        refine s_nil ?_
        refine t_norm (hK36 _ _ ?_)
        refine wp_seq_k fun K47 hK47 => ?_
        refine Rest.region mixed (by kernel_rfl) ?_
        have hH48 : Has E { w45 with drawn := w45.drawn + 1 } [[Hp.one b42 (.cells #[(.int .i64 x40.sec), (.int .i64 x40.frm), (.int .i64 x40.upto)] 269 (0, 0))], sgB, s21, [Hp.one ab (.cells #[(.pointer (some ⟨db, 0, none⟩)), (.int .i64 fr), (.int .i64 n)] 265 (0, 0))], sg, [Hp.one pb (.cells #[(.bool d.p.off), (.bool d.p.armed), (.int .i64 d.p.left), (.int .i64 d.p.uses)] 145 (0, 0))], R] := Has0.drew hH46 _
        refine Rest.phaseA (fun w_ => Has E w_ [[Hp.one b42 (.cells #[(.int .i64 x40.sec), (.int .i64 x40.frm), (.int .i64 x40.upto)] 269 (0, 0))], [Hp.one ab (.cells #[(.pointer (some ⟨db, 0, none⟩)), (.int .i64 fr), (.int .i64 n)] 265 (0, 0))]]) 0 6 6 rfl (by decide) (by kernel_rfl) ?_
        refine a_op 0 rfl (by kernel_rfl) (fun w_ h_ => o_move (v := (.pointer (some ⟨ab, 0, none⟩))) e26_0 ⟨rfl, rfl⟩) ?_
        refine a_op 1 rfl (by kernel_rfl) (fun w_ h_ => o_nilCheck rfl ⟨rfl, rfl⟩) ?_
        refine a_op 2 rfl (by kernel_rfl) (fun w_ h_ => o_fieldAddr (k := 0) (fun _ => by kernel_rfl) rfl ⟨rfl, rfl⟩) ?_
        refine a_op 3 rfl (by kernel_rfl) (fun w_ h_ => o_load1 (v := (.pointer (some ⟨db, 0, none⟩))) Tryz.underlying25 rfl rfl h_ (seg_sub 1 rfl) (CellsAt.one rfl) ⟨rfl, rfl⟩) ?_
        refine a_op 4 rfl (by kernel_rfl) (fun w_ h_ => o_fieldAddr (k := 0) (fun _ => by kernel_rfl) rfl ⟨rfl, rfl⟩) ?_
        refine a_op 5 rfl (by kernel_rfl) (fun w_ h_ => o_load1 (v := (.int .i64 x40.sec)) Tryz.underlying3 rfl rfl h_ (seg_sub 0 rfl) (CellsAt.one rfl) ⟨rfl, rfl⟩) ?_
        have hH49 : Has E { w45 with drawn := w45.drawn + 1 } [[Hp.one b42 (.cells #[(.int .i64 x40.sec), (.int .i64 x40.frm), (.int .i64 x40.upto)] 269 (0, 0))], [Hp.one ab (.cells #[(.pointer (some ⟨db, 0, none⟩)), (.int .i64 fr), (.int .i64 n)] 265 (0, 0))]] := ((hH48.front 3 rfl).front 1 rfl).first 2 rfl
        refine a_done (by kernel_rfl) hH49 ?_
        refine r_op 6 rfl (by kernel_rfl) (o_callf (vs := #[(.pointer (some ⟨db, 0, none⟩)), (.int .i64 x40.sec)]) ca188 rfl (args2 rfl rfl) (read_d (p := d.p) (la := d.la) (lo := d.lo) ((hH48.front 5 rfl).front 5 rfl).all2 hd x40.sec) ?_)
        rintro _ w52 ⟨rfl, hX50⟩
        refine ⟨_, rfl, ?_⟩
        have hH51 : Has E w52 [sg, [Hp.one pb (.cells #[(.bool d.p.off), (.bool d.p.armed), (.int .i64 d.p.left), (.int .i64 d.p.uses)] 145 (0, 0))], [Hp.one b42 (.cells #[(.int .i64 x40.sec), (.int .i64 x40.frm), (.int .i64 x40.upto)] 269 (0, 0))], sgB, s21, [Hp.one ab (.cells #[(.pointer (some ⟨db, 0, none⟩)), (.int .i64 fr), (.int .i64 n)] 265 (0, 0))], R] := hX50.of_all2
        refine r_op 7 rfl (by kernel_rfl) (o_move (v := (.tuple #[(S (readS d.p d.la d.lo x40.sec)), (.int .i64 (readE d.p d.la x40.sec))])) rfl ?_)
        refine Rest.phaseA (fun w_ => Has E w_ []) 8 11 3 rfl (by decide) (by kernel_rfl) ?_
        refine a_op 8 rfl (by kernel_rfl) (fun w_ h_ => o_extract (v := (S (readS d.p d.la d.lo x40.sec))) rfl rfl ⟨rfl, rfl⟩) ?_
        refine a_op 9 rfl (by kernel_rfl) (fun w_ h_ => o_extract (v := (.int .i64 (readE d.p d.la x40.sec))) rfl rfl ⟨rfl, rfl⟩) ?_
        refine a_op 10 rfl (by kernel_rfl) (fun w_ h_ => o_assign (v := (S (readS d.p d.la d.lo x40.sec))) rfl ⟨rfl, rfl⟩) ?_
        have hH53 : Has E w52 [] := hH51.first 0 rfl
        refine a_done (by kernel_rfl) hH53 ?_
        refine r_op 11 rfl (by kernel_rfl) (o_assign (v := (.int .i64 (readE d.p d.la x40.sec))) rfl ?_)
        refine Rest.done (by kernel_rfl) ?_
        refine t_norm (hK47 _ _ ?_)
        refine wp_seq_k fun K54 hK54 => ?_
        refine wp_seq_k fun K55 hK55 => ?_
        refine c_region ?_
        refine s_op (o_move (v := (.int .i64 (readE d.p d.la x40.sec))) rfl ?_)
        refine s_op (o_neq (a := readE d.p d.la x40.sec) (b := 0) rfl rfl ?_)
        refine s_nil ?_
        refine t_norm (hK55 _ _ ?_)
        refine c_cond rfl (fun h56 => ?_) (fun h56 => ?_)
        · -- readE d.p d.la x40.sec ≠ 0
          obtain ⟨hq1, hq2, hq3, hq4, hq5⟩ := hpk x40 (List.mem_of_getElem? hx41)
          have hrd_ := rd_on hon (la := d.la) (lo := d.lo) (n := x40.sec) ⟨by omega, by omega⟩
          exact absurd hrd_.2 h56
        · -- not: readE d.p d.la x40.sec ≠ 0
          obtain ⟨hq1, hq2, hq3, hq4, hq5⟩ := hpk x40 (List.mem_of_getElem? hx41)
          have hrd_ := rd_on hon (la := d.la) (lo := d.lo) (n := x40.sec) ⟨by omega, by omega⟩
          have hrl_ : (readS d.p d.la d.lo x40.sec).length = 64 := by rw [hrd_.1]; exact nowAt_len h64 hlk (by omega)
          refine wp_skip ?_
          refine t_norm (hK54 _ _ ?_)
          refine c_region ?_
          refine s_op (o_move (v := (S (readS d.p d.la d.lo x40.sec))) rfl ?_)
          refine s_op (o_fieldAddr (k := 1) (fun _ => by kernel_rfl) rfl ?_)
          refine s_op (o_load1 (v := (.int .i64 x40.frm)) Tryz.underlying3 rfl rfl hH51 (seg_sub 2 rfl) (CellsAt.one rfl) ?_)
          refine s_op (o_fieldAddr (k := 2) (fun _ => by kernel_rfl) rfl ?_)
          refine s_op (o_load1 (v := (.int .i64 x40.upto)) Tryz.underlying3 rfl rfl hH51 (seg_sub 2 rfl) (CellsAt.one rfl) ?_)
          refine s_op (o_ssl Tryz.underlying9 rfl rfl rfl (by omega) (by omega) (by omega) ?_)
          refine s_op (o_callf (vs := #[(.pointer (some ⟨b15, 0, none⟩)), (S (((readS d.p d.la d.lo x40.sec).take (x40.upto).toNat).drop (x40.frm).toNat))]) ca179 rfl (args2 e26_8 rfl) (bws (hH51.front 3 rfl).all1 hB (((readS d.p d.la d.lo x40.sec).take (x40.upto).toNat).drop (x40.frm).toNat) (by simp only [List.length_drop, List.length_take]; omega)) ?_)
          rintro _ w61 ⟨sg57, rfl, hB58, hX59⟩
          refine ⟨_, rfl, ?_⟩
          have hH60 : Has E w61 [sg57, sg, [Hp.one pb (.cells #[(.bool d.p.off), (.bool d.p.armed), (.int .i64 d.p.left), (.int .i64 d.p.uses)] 145 (0, 0))], [Hp.one b42 (.cells #[(.int .i64 x40.sec), (.int .i64 x40.frm), (.int .i64 x40.upto)] 269 (0, 0))], s21, [Hp.one ab (.cells #[(.pointer (some ⟨db, 0, none⟩)), (.int .i64 fr), (.int .i64 n)] 265 (0, 0))], R] := hX59.of_all1
          refine s_nil ?_
          refine b_norm ?_
          refine t_norm (hK35 _ _ ?_)
          refine c_region ?_
          refine s_op (o_add (a := (j : Int)) (b := 1) e26_29 rfl (w64 (by omega) (by omega)) ?_)
          refine s_op (o_move (v := (.int .i64 ((j : Int) + 1))) rfl ?_)
          refine s_nil ?_
          have hH62 : Has E w61 [sg57, s21, [Hp.one ab (.cells #[(.pointer (some ⟨db, 0, none⟩)), (.int .i64 fr), (.int .i64 n)] 265 (0, 0))], sg, [Hp.one pb (.cells #[(.bool d.p.off), (.bool d.p.armed), (.int .i64 d.p.left), (.int .i64 d.p.uses)] 145 (0, 0))], R] := Has.pick hH60 [0, 3, 3, 0, 0, 1] (by kernel_rfl)
          refine t_norm ⟨(allP fr (n * 64) (at_ % (n * 64)) size).length - (j + 1), _, rfl, ?_, ?_⟩
          · omega
          · exact ⟨(j + 1), sg57, (acc ++ (((readS d.p d.la d.lo x40.sec).take (x40.upto).toNat).drop (x40.frm).toNat)), rfl, hH62, (by omega), (hB58), (by simp only [List.length_append, List.length_drop, List.length_take]; omega), (by rw [take_succ_of (show (allP fr (n * 64) (at_ % (n * 64)) size)[j]? = some _ from hx41), getP_snoc, ← hacc, hrd_.1]; rfl), e26_0, e26_1, e26_2, e26_8, e26_17, e26_23, e26_27, e26_28, rfl⟩
      · -- not: (j : Int) < (((allP fr (n * 64) (at_ % (n * 64)) size).length : Nat) : Int)
        refine wp_exit ?_
        refine t_exit (t_exit (x_in (?_)))
        refine t_norm (hK18 _ _ ?_)
        refine wp_seq_k fun K63 hK63 => ?_
        refine c_region ?_
        refine s_op (o_callf (vs := #[(.pointer (some ⟨b15, 0, none⟩))]) ca181 rfl (args1 e26_8) (bstr hH30.all1 hB) ?_)
        rintro _ w66 ⟨rfl, hX64⟩
        refine ⟨_, rfl, ?_⟩
        have hH65 : Has E w66 [s21, [Hp.one ab (.cells #[(.pointer (some ⟨db, 0, none⟩)), (.int .i64 fr), (.int .i64 n)] 265 (0, 0))], sg, [Hp.one pb (.cells #[(.bool d.p.off), (.bool d.p.armed), (.int .i64 d.p.left), (.int .i64 d.p.uses)] 145 (0, 0))], R] := hX64.of_all
        refine s_op (o_assign (v := (S acc)) rfl ?_)
        refine s_op (o_assign (v := (.int .i64 0)) rfl ?_)
        refine s_nil ?_
        refine t_norm (hK63 _ _ ?_)
        refine wp_ret ?_
        refine c_ret2 Tryz.results98  (v := (S acc)) rfl (x := (.int .i64 0)) rfl ?_
        have hH67 : Has E w66 [sg, [Hp.one pb (.cells #[(.bool d.p.off), (.bool d.p.armed), (.int .i64 d.p.left), (.int .i64 d.p.uses)] 145 (0, 0))], [Hp.one ab (.cells #[(.pointer (some ⟨db, 0, none⟩)), (.int .i64 fr), (.int .i64 n)] 265 (0, 0))], R] := ((((hH65.front 4 rfl).front 2 rfl).front 4 rfl).front 4 rfl).first 4 rfl
        have e_ : j = (allP fr (n * 64) (at_ % (n * 64)) size).length := by omega
        rw [e_, List.take_of_length_le (Nat.le_refl _)] at hacc
        exact ⟨by rw [← hacc], hH67⟩
end Go.Q
