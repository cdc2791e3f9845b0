/-
  Parts of a walk: what functions of the program compute, each told by a theorem (Qvw4, Qvw6, Qvw7, Qvt14, Qvw8, Qvw9, QPool2, QvL8, QYD, QvRd).
-/
import Derived.Test.YtcjjknilhceeeaaGreatDoorB4
import Derived.OpenShut
set_option linter.unusedVariables false
set_option linter.unusedSimpArgs false
set_option linter.unnecessarySimpa false
namespace Go.Q
open Go.Proofs
set_option linter.unusedVariables false
set_option maxRecDepth 100000
attribute [local irreducible] wpList OK Code.wp
set_option maxHeartbeats 4000000 in
theorem held_one {E w : World} {R : List Hp} {pl : Nat} {sg_pl : List Hp} {v : PolS} {k : Int} {f : Frm} (hH : Has E w [sg_pl, R]) (h_pl : PolAt pl sg_pl v) (hfr : v.fr = [(k, f)]) (hkw : ∀ p ∈ v.fr, (Lit.int .i64 p.1).wf = true) (hkn : v.fr.length ≤ 1000000) :
    Calls Tryz.prog 46 #[(.pointer (some ⟨pl, 0, none⟩))] w fun e w' => ∃ (v1' : Value) (s2' : List Hp) (sg_pl' : List Hp), e = .returned v1' ∧ (Own 3 1 v1' [k].length ([k].map iV) s2') ∧ (PolAt pl sg_pl' v) ∧ Has E w' [s2', sg_pl', R] := by
  obtain ⟨x1, x2, s3, s4, rfl, f5, f6⟩ := h_pl
  have hH7 : Has E w [[Hp.one pl (.cells #[(.pointer (some ⟨x1, 0, none⟩)), (.int .i64 v.room), (.map (some x2))] 81 (0, 0))], s3, s4, R] := Has.op3 hH
  refine c_enter (args := [(.pointer (some ⟨pl, 0, none⟩))]) Tryz.func46 rfl Tryz.ntmps46 (by simp) ?_
  refine wp_seq_k fun K8 hK8 => ?_
  refine c_region ?_
  refine s_op (o_assign (v := (.slice none 0 0)) rfl ?_)
  refine s_nil ?_
  refine t_norm (hK8 _ _ ?_)
  refine wp_seq_k fun K9 hK9 => ?_
  refine wp_seq_k fun K10 hK10 => ?_
  refine c_region ?_
  refine s_op (o_move (v := (.pointer (some ⟨pl, 0, none⟩))) rfl ?_)
  refine s_op (o_pnil (p := some _) Tryz.underlying65 rfl rfl ?_)
  refine s_nil ?_
  refine t_norm (hK10 _ _ ?_)
  refine c_false rfl rfl ?_
  refine wp_skip ?_
  refine t_norm (hK9 _ _ ?_)
  refine wp_seq_k fun K11 hK11 => ?_
  refine c_region ?_
  refine s_op (o_move (v := (.pointer (some ⟨pl, 0, none⟩))) rfl ?_)
  refine s_op (o_nilCheck rfl ?_)
  refine s_op (o_fieldAddr (k := 2) (fun _ => by kernel_rfl) rfl ?_)
  refine s_op (o_load1 (v := (.map (some x2))) Tryz.underlying79 rfl rfl hH7 (seg_sub 0 rfl) (CellsAt.one rfl) ?_)
  refine s_op (o_callf (vs := #[(.map (some x2))]) ca87 rfl (args1 rfl) (fkeys_c hH7.all x2) ?_)
  rintro _ w15 ⟨b12, rfl, hX13⟩
  refine ⟨_, rfl, ?_⟩
  have hH14 : Has E w15 [[Hp.one b12 (.cells #[(.map (some x2))] 79 (0, 0))], [Hp.one pl (.cells #[(.pointer (some ⟨x1, 0, none⟩)), (.int .i64 v.room), (.map (some x2))] 81 (0, 0))], s3, s4, R] := hX13.of_all1
  refine s_op (o_callf (vs := #[(.func (.func 114) #[] #[.pointer (some ⟨b12, 0, none⟩)])]) ca57 rfl (args1 rfl) (fdir_c hH14.all1 (DirRd.mono (Rd := FrmRd) FrmRd.mono (DirAt.rd (Rd := FrmRd) FrmRd.mono FrmAt.rd f6) (seg_sub 2 rfl)) hkw hkn) ?_)
  rintro _ w21 ⟨v16, s17, rfl, ho18, hX19⟩
  refine ⟨_, rfl, ?_⟩
  have hH20 : Has E w21 [s17, [Hp.one b12 (.cells #[(.map (some x2))] 79 (0, 0))], [Hp.one pl (.cells #[(.pointer (some ⟨x1, 0, none⟩)), (.int .i64 v.room), (.map (some x2))] 81 (0, 0))], s3, s4, R] := hX19.of_all2
  refine s_op (o_assign (v := v16) rfl ?_)
  refine s_nil ?_
  refine t_norm (hK11 _ _ ?_)
  refine wp_ret ?_
  refine c_ret1 Tryz.results46  (v := v16) rfl ?_
  have q22 : [k] = (keysI v.fr) := by rw [hfr, keysI_one]
  have hH23 : Has E w21 [([Hp.one pl (.cells #[(.pointer (some ⟨x1, 0, none⟩)), (.int .i64 v.room), (.map (some x2))] 81 (0, 0))] ++ (s3 ++ s4)), s17, [Hp.one b12 (.cells #[(.map (some x2))] 79 (0, 0))], R] := Has.cl3 (((hH20.front 4 rfl).front 4 rfl).front 4 rfl)
  have hd24 : PolAt pl ([Hp.one pl (.cells #[(.pointer (some ⟨x1, 0, none⟩)), (.int .i64 v.room), (.map (some x2))] 81 (0, 0))] ++ (s3 ++ s4)) v := PolAt.mk (v := v) f5 f6
  have hH25 : Has E w21 [s17, ([Hp.one pl (.cells #[(.pointer (some ⟨x1, 0, none⟩)), (.int .i64 v.room), (.map (some x2))] 81 (0, 0))] ++ (s3 ++ s4)), R] := (((hH23.front 3 rfl).front 1 rfl).front 2 rfl).first 3 rfl
  exact ⟨_, _, _, rfl, (by rw [q22]; exact ho18), hd24, hH25⟩
set_option maxHeartbeats 4000000 in
theorem dirty_one {E w : World} {R : List Hp} {pl : Nat} {sg_pl : List Hp} {v : PolS} {k : Int} {f : Frm} (hH : Has E w [sg_pl, R]) (h_pl : PolAt pl sg_pl v) (hfr : v.fr = [(k, f)]) (hkw : ∀ p ∈ v.fr, (Lit.int .i64 p.1).wf = true) (hkn : v.fr.length ≤ 1000000) (hd : f.dirty = true) :
    Calls Tryz.prog 45 #[(.pointer (some ⟨pl, 0, none⟩))] w fun e w' => ∃ (v1' : Value) (s2' : List Hp) (sg_pl' : List Hp), e = .returned v1' ∧ (Own 128 2 v1' [(k, f.first)].length ([(k, f.first)].flatMap drC) s2') ∧ (PolAt pl sg_pl' v) ∧ Has E w' [s2', sg_pl', R] := by
  have hgk_ : getB v.fr k = some f := by rw [hfr, getB, if_pos rfl]
  obtain ⟨x1, x2, s3, s4, rfl, f5, f6⟩ := h_pl
  have hH7 : Has E w [[Hp.one pl (.cells #[(.pointer (some ⟨x1, 0, none⟩)), (.int .i64 v.room), (.map (some x2))] 81 (0, 0))], s3, s4, R] := Has.op3 hH
  refine c_enter (args := [(.pointer (some ⟨pl, 0, none⟩))]) Tryz.func45 rfl Tryz.ntmps45 (by simp) ?_
  refine wp_seq_k fun K8 hK8 => ?_
  refine c_region ?_
  refine s_op (o_assign (v := (.slice none 0 0)) rfl ?_)
  refine s_nil ?_
  refine t_norm (hK8 _ _ ?_)
  refine wp_seq_k fun K9 hK9 => ?_
  refine c_region ?_
  refine s_op (o_assign (v := (.slice none 0 0)) rfl ?_)
  refine s_nil ?_
  refine t_norm (hK9 _ _ ?_)
  refine wp_seq_k fun K10 hK10 => ?_
  refine wp_seq_k fun K11 hK11 => ?_
  refine c_region ?_
  refine s_op (o_move (v := (.pointer (some ⟨pl, 0, none⟩))) rfl ?_)
  have hH12 : Has E w [([Hp.one pl (.cells #[(.pointer (some ⟨x1, 0, none⟩)), (.int .i64 v.room), (.map (some x2))] 81 (0, 0))] ++ (s3 ++ s4)), R] := Has.cl3 (((hH7.front 2 rfl).front 2 rfl).front 2 rfl)
  have hd13 : PolAt pl ([Hp.one pl (.cells #[(.pointer (some ⟨x1, 0, none⟩)), (.int .i64 v.room), (.map (some x2))] 81 (0, 0))] ++ (s3 ++ s4)) v := PolAt.mk (v := v) f5 f6
  refine s_op (o_callf (vs := #[(.pointer (some ⟨pl, 0, none⟩))]) ca46 rfl (args1 rfl) (held_one (v := v) (k := k) (f := f) hH12.all1 hd13 hfr hkw hkn) ?_)
  rintro _ w21 ⟨v14, s15, sg17, rfl, ho16, hd18, hX19⟩
  refine ⟨_, rfl, ?_⟩
  have hH20 : Has E w21 [s15, sg17, R] := hX19.of_all2
  refine s_op (o_lenS Tryz.underlying40 rfl ho16.sl ?_)
  refine s_op (o_move (v := (.int .i64 0)) rfl ?_)
  refine s_nil ?_
  refine t_norm (hK11 _ _ ?_)
  refine wp_block ?_
  refine u_loop 3 (u_round ?_)
  refine wp_seq_k fun K22 hK22 => ?_
  refine c_region ?_
  refine s_op (o_lss (a := 0) (b := 1) rfl rfl ?_)
  refine s_nil ?_
  refine t_norm (hK22 _ _ ?_)
  refine wp_seq_k fun K23 hK23 => ?_
  refine c_true rfl rfl ?_
  refine wp_skip ?_
  refine t_norm (hK23 _ _ ?_)
  refine wp_seq_k fun K24 hK24 => ?_
  refine wp_block ?_
  refine wp_seq_k fun K25 hK25 => ?_
  refine c_region ?_
  refine s_op (o_index1 Tryz.underlying40 ti3 rfl ho16.sl rfl (by omega) (show [k][((0 : Int)).toNat]? = some k from rfl) fun b26 o27 hc28 => ?_)
  refine s_op (o_load1 (v := (.int .i64 k)) Tryz.underlying3 rfl rfl hH20 (seg_sub 0 rfl) hc28 ?_)
  refine s_op (o_assign (v := (.int .i64 k)) rfl ?_)
  refine s_nil ?_
  refine t_norm (hK25 _ _ ?_)
  refine wp_seq_k fun K29 hK29 => ?_
  refine c_region ?_
  refine s_op (o_move (v := (.pointer (some ⟨pl, 0, none⟩))) rfl ?_)
  refine s_op (o_nilCheck rfl ?_)
  obtain ⟨x30, x31, s32, s33, rfl, f34, f35⟩ := hd18
  have hH36 : Has E w21 [[Hp.one pl (.cells #[(.pointer (some ⟨x30, 0, none⟩)), (.int .i64 v.room), (.map (some x31))] 81 (0, 0))], s32, s33, s15, R] := Has.op3 (hH20.front 1 rfl)
  refine s_op (o_fieldAddr (k := 2) (fun _ => by kernel_rfl) rfl ?_)
  refine s_op (o_load1 (v := (.map (some x31))) Tryz.underlying79 rfl rfl hH36 (seg_sub 0 rfl) (CellsAt.one rfl) ?_)
  refine s_op (o_move (v := (.int .i64 k)) rfl ?_)
  refine s_op (o_dirOut (k := k) Tryz.underlying79 (key_int Tryz.underlying3) ti123 rfl rfl f35 (hH36.front 2 rfl) (fun hN37 => ?_) (fun b39 v40 sx41 sr42 hS38 hx43 hh44 hH45 => ?_))
  · -- none
    exact absurd (Eq.trans (Eq.symm hgk_) hN37) (by simp)
  · -- some
    have e_ : f = v40 := Option.some.inj (Eq.trans (Eq.symm hgk_) hS38)
    subst e_
    refine s_op (o_assign (v := (.pointer (some ⟨b39, 0, none⟩))) rfl ?_)
    refine s_nil ?_
    refine t_norm (hK29 _ _ ?_)
    refine wp_seq_k fun K46 hK46 => ?_
    refine c_region ?_
    refine s_op (o_move (v := (.pointer (some ⟨b39, 0, none⟩))) rfl ?_)
    refine s_op (o_nilCheck rfl ?_)
    obtain ⟨x47, s48, rfl, f49⟩ := hx43
    have hH50 : Has E w21 [[Hp.one b39 (.cells #[(.int .i64 f.no), (.int .i64 f.gsn), x47, (.bool f.dirty), (.int .i64 f.first), (.int .i64 f.pins)] 126 (0, 0))], s48, sr42, [Hp.one pl (.cells #[(.pointer (some ⟨x30, 0, none⟩)), (.int .i64 v.room), (.map (some x31))] 81 (0, 0))], s32, s15, R] := Has.op2 hH45
    refine s_op (o_fieldAddr (k := 3) (fun _ => by kernel_rfl) rfl ?_)
    refine s_op (o_load1 (v := (.bool f.dirty)) Tryz.underlying4 rfl rfl hH50 (seg_sub 0 rfl) (CellsAt.one rfl) ?_)
    refine s_nil ?_
    refine t_norm (hK46 _ _ ?_)
    refine c_condb rfl (fun h51 => ?_) (fun h51 => ?_)
    · -- f.dirty
      refine c_region ?_
      refine s_op (o_move (v := (.slice none 0 0)) rfl ?_)
      refine s_op (o_move (v := (.int .i64 k)) rfl ?_)
      refine s_op (o_move (v := (.pointer (some ⟨b39, 0, none⟩))) rfl ?_)
      refine s_op (o_nilCheck rfl ?_)
      refine s_op (o_fieldAddr (k := 4) (fun _ => by kernel_rfl) rfl ?_)
      refine s_op (o_load1 (v := (.int .i64 f.first)) Tryz.underlying3 rfl rfl hH50 (seg_sub 0 rfl) (CellsAt.one rfl) ?_)
      refine s_op (o_sight (v := (.agg #[(.int .i64 k), (.int .i64 f.first)])) (fun _ => by kernel_rfl) ?_)
      refine s_op (o_buildSlice (ps := #[(0, (.agg #[(.int .i64 k), (.int .i64 f.first)]))]) (cells := #[(.int .i64 k), (.int .i64 f.first)]) Tryz.underlying86 ti128 (by decide) (parts1 rfl) (by kernel_rfl) hH50 fun b52 w53 hH54 => ?_)
      refine s_op (o_append Tryz.underlying86 ti128 rfl (by decide) rfl (Own.nil 128 2) rfl (sl_litF (f := drC) (l := [((k, f.first) : Int × Int)]) drC_len rfl rfl (by simp)) (Has.nil hH54) (seg_sub 0 rfl) (one_drC _) (by simp) (by simp) fun v55 s56 w58 ho57 hH59 => ?_)
      have ho57 : Own 128 2 v55 [((k, f.first) : Int × Int)].length ([((k, f.first) : Int × Int)].flatMap drC) s56 := Own.appF (a := []) ho57
      refine s_op (o_assign (v := v55) rfl ?_)
      refine s_nil ?_
      refine b_norm ?_
      refine t_norm (hK24 _ _ ?_)
      refine c_region ?_
      refine s_op (o_add (a := 0) (b := 1) (c := 1) rfl rfl (by decide) ?_)
      refine s_op (o_move (v := (.int .i64 1)) rfl ?_)
      refine s_nil ?_
      refine t_norm (u_round ?_)
      refine wp_seq_k fun K60 hK60 => ?_
      refine c_region ?_
      refine s_op (o_lss (a := 1) (b := 1) rfl rfl ?_)
      refine s_nil ?_
      refine t_norm (hK60 _ _ ?_)
      refine wp_seq_k fun K61 hK61 => ?_
      refine c_false rfl rfl ?_
      refine wp_exit ?_
      refine t_exit (t_exit (x_in (?_)))
      refine t_norm (hK10 _ _ ?_)
      refine wp_seq_k fun K62 hK62 => ?_
      refine c_region ?_
      refine s_op (o_move (v := v55) rfl ?_)
      refine s_op (o_assign (v := v55) rfl ?_)
      refine s_nil ?_
      refine t_norm (hK62 _ _ ?_)
      refine wp_ret ?_
      refine c_ret1 Tryz.results45  (v := v55) rfl ?_
      have q63 : [(k, f.first)] = [((k, f.first) : Int × Int)] := by rfl
      have hH64 : Has E w58 [([Hp.one b39 (.cells #[(.int .i64 f.no), (.int .i64 f.gsn), x47, (.bool f.dirty), (.int .i64 f.first), (.int .i64 f.pins)] 126 (0, 0))] ++ s48), s56, [Hp.one b52 (.cells #[(.int .i64 k), (.int .i64 f.first)] 128 (0, 0))], sr42, [Hp.one pl (.cells #[(.pointer (some ⟨x30, 0, none⟩)), (.int .i64 v.room), (.map (some x31))] 81 (0, 0))], s32, s15, R] := Has.cl2 ((hH59.front 3 rfl).front 3 rfl)
      have hd65 : FrmAt b39 ([Hp.one b39 (.cells #[(.int .i64 f.no), (.int .i64 f.gsn), x47, (.bool f.dirty), (.int .i64 f.first), (.int .i64 f.pins)] 126 (0, 0))] ++ s48) f := FrmAt.mk (v := f) f49
      obtain ⟨sg66, hd67, hH68⟩ := DirHole.close hh44 hd65 ((hH64.front 3 rfl).front 1 rfl)
      have hd67 : DirAt iV FrmAt x31 sg66 (putB v.fr k f) := hd67
      have hH69 : Has E w58 [([Hp.one pl (.cells #[(.pointer (some ⟨x30, 0, none⟩)), (.int .i64 v.room), (.map (some x31))] 81 (0, 0))] ++ (s32 ++ sg66)), s56, [Hp.one b52 (.cells #[(.int .i64 k), (.int .i64 f.first)] 128 (0, 0))], s15, R] := Has.cl3 ((hH68.front 4 rfl).front 4 rfl)
      have hd70 : PolAt pl ([Hp.one pl (.cells #[(.pointer (some ⟨x30, 0, none⟩)), (.int .i64 v.room), (.map (some x31))] 81 (0, 0))] ++ (s32 ++ sg66)) (⟨v.tw, v.room, (putB v.fr k f)⟩ : PolS) := PolAt.mk (v := (⟨v.tw, v.room, (putB v.fr k f)⟩ : PolS)) f34 hd67
      have q71 : v = (⟨v.tw, v.room, (putB v.fr k f)⟩ : PolS) := by rw [putB_me hgk_]
      have hH72 : Has E w58 [s56, ([Hp.one pl (.cells #[(.pointer (some ⟨x30, 0, none⟩)), (.int .i64 v.room), (.map (some x31))] 81 (0, 0))] ++ (s32 ++ sg66)), R] := (((hH69.front 4 rfl).front 1 rfl).front 2 rfl).first 3 rfl
      exact ⟨_, _, _, rfl, (by rw [q63]; exact ho57), (by rw [q71]; exact hd70), hH72⟩
    · -- not: f.dirty
      exact absurd hd (by simpa using h51)
end Go.Q
namespace Go.Q
open Go.Proofs
set_option linter.unusedVariables false
set_option maxRecDepth 100000
attribute [local irreducible] wpList OK Code.wp
set_option maxHeartbeats 4000000 in
theorem each_busy {E w : World} {R : List Hp} {pl : Nat} {sg_pl : List Hp} {v : PolS} {v_k : Value} {k : Int} {hb : Nat} {h : Int} {pb : Nat} {nb : Nat} {sg_nb : List Hp} {m : BxS} {f : Frm} (hH : Has E w [sg_pl, sg_nb, R]) (h_pl : PolAt pl sg_pl v) (h_k : Sl R 1 v_k [k].length ([k].map iV)) (h_hb : CellsAt R hb 0 [(.int .i64 h)]) (h_pb : CellsAt R pb 0 [(.pointer (some ⟨pl, 0, none⟩))]) (h_nb : BxAt nb sg_nb m) (hgf : getB v.fr k = some f) (hd : f.dirty = true) (hbz : h < f.gsn) :
    Calls Tryz.prog 79 #[(.pointer (some ⟨pl, 0, none⟩)), v_k, (.func (.func 80) #[] #[(.pointer (some ⟨hb, 0, none⟩)), (.pointer (some ⟨pb, 0, none⟩)), (.pointer (some ⟨nb, 0, none⟩))])] w fun e w' => ∃ (sg_pl' : List Hp) (sg_nb' : List Hp), e = .returned (.int .i64 10) ∧ (PolAt pl sg_pl' v) ∧ (BxAt nb sg_nb' m) ∧ Has E w' [sg_pl', sg_nb', R] := by
  obtain ⟨x1, x2, s3, s4, rfl, f5, f6⟩ := h_pl
  have hH7 : Has E w [[Hp.one pl (.cells #[(.pointer (some ⟨x1, 0, none⟩)), (.int .i64 v.room), (.map (some x2))] 81 (0, 0))], s3, s4, sg_nb, R] := Has.op3 hH
  obtain rfl := (show sg_nb = _ from h_nb)
  have hH8 := (hH7.front 3 rfl)
  refine c_enter (args := [(.pointer (some ⟨pl, 0, none⟩)), v_k, (.func (.func 80) #[] #[(.pointer (some ⟨hb, 0, none⟩)), (.pointer (some ⟨pb, 0, none⟩)), (.pointer (some ⟨nb, 0, none⟩))])]) Tryz.func79 rfl Tryz.ntmps79 (by simp) ?_
  refine wp_seq_k fun K9 hK9 => ?_
  refine c_region ?_
  refine s_op (o_assign (v := (.int .i64 0)) rfl ?_)
  refine s_nil ?_
  refine t_norm (hK9 _ _ ?_)
  refine wp_seq_k fun K10 hK10 => ?_
  refine wp_seq_k fun K11 hK11 => ?_
  refine c_region ?_
  refine s_op (o_move (v := (.pointer (some ⟨pl, 0, none⟩))) rfl ?_)
  refine s_op (o_pnil (p := some _) Tryz.underlying65 rfl rfl ?_)
  refine s_nil ?_
  refine t_norm (hK11 _ _ ?_)
  refine c_false rfl rfl ?_
  refine wp_skip ?_
  refine t_norm (hK10 _ _ ?_)
  refine wp_seq_k fun K12 hK12 => ?_
  refine wp_seq_k fun K13 hK13 => ?_
  refine c_region ?_
  refine s_op (o_move (v := v_k) rfl ?_)
  refine s_op (o_lenS Tryz.underlying40 rfl h_k ?_)
  refine s_op (o_move (v := (.int .i64 0)) rfl ?_)
  refine s_nil ?_
  refine t_norm (hK13 _ _ ?_)
  refine wp_block ?_
  refine u_loop 3 (u_round ?_)
  refine wp_seq_k fun K14 hK14 => ?_
  refine c_region ?_
  refine s_op (o_lss (a := 0) (b := 1) rfl rfl ?_)
  refine s_nil ?_
  refine t_norm (hK14 _ _ ?_)
  refine wp_seq_k fun K15 hK15 => ?_
  refine c_true rfl rfl ?_
  refine wp_skip ?_
  refine t_norm (hK15 _ _ ?_)
  refine wp_seq_k fun K16 hK16 => ?_
  refine wp_block ?_
  refine wp_seq_k fun K17 hK17 => ?_
  refine c_region ?_
  refine s_op (o_index1 Tryz.underlying40 ti3 rfl h_k rfl (by omega) (show [k][((0 : Int)).toNat]? = some k from rfl) fun b18 o19 hc20 => ?_)
  refine s_op (o_load1 (v := (.int .i64 k)) Tryz.underlying3 rfl rfl hH8 (seg_sub 4 rfl) hc20 ?_)
  refine s_op (o_assign (v := (.int .i64 k)) rfl ?_)
  refine s_nil ?_
  refine t_norm (hK17 _ _ ?_)
  refine wp_seq_k fun K21 hK21 => ?_
  refine c_region ?_
  refine s_op (o_move (v := (.pointer (some ⟨pl, 0, none⟩))) rfl ?_)
  refine s_op (o_nilCheck rfl ?_)
  refine s_op (o_fieldAddr (k := 2) (fun _ => by kernel_rfl) rfl ?_)
  refine s_op (o_load1 (v := (.map (some x2))) Tryz.underlying79 rfl rfl hH8 (seg_sub 1 rfl) (CellsAt.one rfl) ?_)
  refine s_op (o_move (v := (.int .i64 k)) rfl ?_)
  refine s_op (o_dirOut (k := k) Tryz.underlying79 (key_int Tryz.underlying3) ti123 rfl rfl f6 (hH8.front 3 rfl) (fun hN22 => ?_) (fun b24 v25 sx26 sr27 hS23 hx28 hh29 hH30 => ?_))
  · -- none
    exact absurd (Eq.trans (Eq.symm hgf) hN22) (by simp)
  · -- some
    have e_ : f = v25 := Option.some.inj (Eq.trans (Eq.symm hgf) hS23)
    subst e_
    refine s_op (o_assign (v := (.pointer (some ⟨b24, 0, none⟩))) rfl ?_)
    refine s_nil ?_
    refine t_norm (hK21 _ _ ?_)
    refine wp_seq_k fun K31 hK31 => ?_
    refine wp_seq_k fun K32 hK32 => ?_
    refine c_region ?_
    refine s_op (o_move (v := (.pointer (some ⟨b24, 0, none⟩))) rfl ?_)
    refine s_op (o_pnil (p := some _) Tryz.underlying123 rfl rfl ?_)
    refine s_nil ?_
    refine t_norm (hK32 _ _ ?_)
    refine c_false rfl rfl ?_
    refine wp_skip ?_
    refine t_norm (hK31 _ _ ?_)
    refine wp_seq_k fun K33 hK33 => ?_
    refine c_region ?_
    refine s_op (o_move (v := (.func (.func 80) #[] #[(.pointer (some ⟨hb, 0, none⟩)), (.pointer (some ⟨pb, 0, none⟩)), (.pointer (some ⟨nb, 0, none⟩))])) rfl ?_)
    refine s_op (o_move (v := (.pointer (some ⟨b24, 0, none⟩))) rfl ?_)
    have hd35 : BxAt nb [Hp.one nb (.cells #[(.int .i64 m.n)] 3 (0, 0))] m := rfl
    refine s_op (o_callf (vs := #[(.pointer (some ⟨b24, 0, none⟩)), (.pointer (some ⟨hb, 0, none⟩)), (.pointer (some ⟨pb, 0, none⟩)), (.pointer (some ⟨nb, 0, none⟩))]) ca80 rfl (args1c3 rfl) (flf_busy (v := f) (h := h) (pl := pl) (m := m) (mb := x2) (rm := v.room) (t := v.tw) (((hH30.front 4 rfl).front 3 rfl).front 2 rfl).all3 hx28 (h_hb.mono (seg_sub 2 rfl)) (h_pb.mono (seg_sub 2 rfl)) hd35 ((CellsAt.one rfl).mono (seg_sub 1 rfl)) f5 hd hbz) ?_)
    rintro _ w44 ⟨sg36, sg38, sg40, rfl, hd37, hd39, hd41, hX42⟩
    refine ⟨_, rfl, ?_⟩
    have hH43 : Has E w44 [sg36, sg38, sg40, sr27, [Hp.one pl (.cells #[(.pointer (some ⟨x1, 0, none⟩)), (.int .i64 v.room), (.map (some x2))] 81 (0, 0))], R] := hX42.of_all3
    refine s_op (o_assign (v := (.int .i64 10)) rfl ?_)
    refine s_nil ?_
    refine t_norm (hK33 _ _ ?_)
    refine wp_seq_k fun K45 hK45 => ?_
    refine c_region ?_
    refine s_op (o_move (v := (.int .i64 10)) rfl ?_)
    refine s_op (o_neq (a := 10) (b := 0) rfl rfl ?_)
    refine s_nil ?_
    refine t_norm (hK45 _ _ ?_)
    refine c_true rfl rfl ?_
    refine wp_seq_k fun K46 hK46 => ?_
    refine c_region ?_
    refine s_op (o_move (v := (.int .i64 10)) rfl ?_)
    refine s_op (o_assign (v := (.int .i64 10)) rfl ?_)
    refine s_nil ?_
    refine t_norm (hK46 _ _ ?_)
    refine wp_ret ?_
    refine b_ret (t_ret (t_ret (b_ret (t_ret (c_ret1 Tryz.results79  (v := (.int .i64 10)) rfl ?_)))))
    obtain ⟨sg47, hd48, hH49⟩ := DirHole.close hh29 hd37 ((hH43.front 3 rfl).front 1 rfl)
    have hd48 : DirAt iV FrmAt x2 sg47 (putB v.fr k f) := hd48
    have hH50 : Has E w44 [([Hp.one pl (.cells #[(.pointer (some ⟨x1, 0, none⟩)), (.int .i64 v.room), (.map (some x2))] 81 (0, 0))] ++ (sg40 ++ sg47)), sg38, R] := Has.cl3 ((hH49.front 2 rfl).front 3 rfl)
    have hd51 : PolAt pl ([Hp.one pl (.cells #[(.pointer (some ⟨x1, 0, none⟩)), (.int .i64 v.room), (.map (some x2))] 81 (0, 0))] ++ (sg40 ++ sg47)) (⟨v.tw, v.room, (putB v.fr k f)⟩ : PolS) := PolAt.mk (v := (⟨v.tw, v.room, (putB v.fr k f)⟩ : PolS)) hd41 hd48
    have q52 : v = (⟨v.tw, v.room, (putB v.fr k f)⟩ : PolS) := by rw [putB_me hgf]
    exact ⟨_, _, rfl, (by rw [q52]; exact hd51), hd39, hH50⟩
set_option maxHeartbeats 4000000 in
theorem each_ok {E w : World} {R : List Hp} {pl : Nat} {sg_pl : List Hp} {v : PolS} {v_k : Value} {k : Int} {hb : Nat} {h : Int} {pb : Nat} {nb : Nat} {sg_nb : List Hp} {m : BxS} {f : Frm} {kk : Nat} (hH : Has E w [sg_pl, sg_nb, R]) (h_pl : PolAt pl sg_pl v) (h_k : Sl R 1 v_k [k].length ([k].map iV)) (h_hb : CellsAt R hb 0 [(.int .i64 h)]) (h_pb : CellsAt R pb 0 [(.pointer (some ⟨pl, 0, none⟩))]) (h_nb : BxAt nb sg_nb m) (hg : CellsAt R 1 0 nibV) (hgf : getB v.fr k = some f) (hd : f.dirty = true) (hle : f.gsn ≤ h) (hs0 : (st1 v.tw.1 v.tw.2 (pgF f)).1 = 0) (hmm : m.n + 1 ≤ 1000000 ∧ 0 ≤ m.n) (hok : TwOk v.tw) (hfw : Few v.tw.1.p kk) (hkk : kk ≤ 700000) :
    Calls Tryz.prog 79 #[(.pointer (some ⟨pl, 0, none⟩)), v_k, (.func (.func 80) #[] #[(.pointer (some ⟨hb, 0, none⟩)), (.pointer (some ⟨pb, 0, none⟩)), (.pointer (some ⟨nb, 0, none⟩))])] w fun e w' => ∃ (sg_pl' : List Hp) (sg_nb' : List Hp), e = .returned (.int .i64 0) ∧ (PolAt pl sg_pl' (⟨((st1 v.tw.1 v.tw.2 (pgF f)).2, v.tw.2), v.room, putB v.fr k ⟨f.no, f.gsn, f.cells, false, f.first, f.pins⟩⟩ : PolS)) ∧ (BxAt nb sg_nb' (⟨m.n + 1⟩ : BxS)) ∧ Has E w' [sg_pl', sg_nb', R] := by
  obtain ⟨x1, x2, s3, s4, rfl, f5, f6⟩ := h_pl
  have hH7 : Has E w [[Hp.one pl (.cells #[(.pointer (some ⟨x1, 0, none⟩)), (.int .i64 v.room), (.map (some x2))] 81 (0, 0))], s3, s4, sg_nb, R] := Has.op3 hH
  obtain rfl := (show sg_nb = _ from h_nb)
  have hH8 := (hH7.front 3 rfl)
  refine c_enter (args := [(.pointer (some ⟨pl, 0, none⟩)), v_k, (.func (.func 80) #[] #[(.pointer (some ⟨hb, 0, none⟩)), (.pointer (some ⟨pb, 0, none⟩)), (.pointer (some ⟨nb, 0, none⟩))])]) Tryz.func79 rfl Tryz.ntmps79 (by simp) ?_
  refine wp_seq_k fun K9 hK9 => ?_
  refine c_region ?_
  refine s_op (o_assign (v := (.int .i64 0)) rfl ?_)
  refine s_nil ?_
  refine t_norm (hK9 _ _ ?_)
  refine wp_seq_k fun K10 hK10 => ?_
  refine wp_seq_k fun K11 hK11 => ?_
  refine c_region ?_
  refine s_op (o_move (v := (.pointer (some ⟨pl, 0, none⟩))) rfl ?_)
  refine s_op (o_pnil (p := some _) Tryz.underlying65 rfl rfl ?_)
  refine s_nil ?_
  refine t_norm (hK11 _ _ ?_)
  refine c_false rfl rfl ?_
  refine wp_skip ?_
  refine t_norm (hK10 _ _ ?_)
  refine wp_seq_k fun K12 hK12 => ?_
  refine wp_seq_k fun K13 hK13 => ?_
  refine c_region ?_
  refine s_op (o_move (v := v_k) rfl ?_)
  refine s_op (o_lenS Tryz.underlying40 rfl h_k ?_)
  refine s_op (o_move (v := (.int .i64 0)) rfl ?_)
  refine s_nil ?_
  refine t_norm (hK13 _ _ ?_)
  refine wp_block ?_
  refine u_loop 3 (u_round ?_)
  refine wp_seq_k fun K14 hK14 => ?_
  refine c_region ?_
  refine s_op (o_lss (a := 0) (b := 1) rfl rfl ?_)
  refine s_nil ?_
  refine t_norm (hK14 _ _ ?_)
  refine wp_seq_k fun K15 hK15 => ?_
  refine c_true rfl rfl ?_
  refine wp_skip ?_
  refine t_norm (hK15 _ _ ?_)
  refine wp_seq_k fun K16 hK16 => ?_
  refine wp_block ?_
  refine wp_seq_k fun K17 hK17 => ?_
  refine c_region ?_
  refine s_op (o_index1 Tryz.underlying40 ti3 rfl h_k rfl (by omega) (show [k][((0 : Int)).toNat]? = some k from rfl) fun b18 o19 hc20 => ?_)
  refine s_op (o_load1 (v := (.int .i64 k)) Tryz.underlying3 rfl rfl hH8 (seg_sub 4 rfl) hc20 ?_)
  refine s_op (o_assign (v := (.int .i64 k)) rfl ?_)
  refine s_nil ?_
  refine t_norm (hK17 _ _ ?_)
  refine wp_seq_k fun K21 hK21 => ?_
  refine c_region ?_
  refine s_op (o_move (v := (.pointer (some ⟨pl, 0, none⟩))) rfl ?_)
  refine s_op (o_nilCheck rfl ?_)
  refine s_op (o_fieldAddr (k := 2) (fun _ => by kernel_rfl) rfl ?_)
  refine s_op (o_load1 (v := (.map (some x2))) Tryz.underlying79 rfl rfl hH8 (seg_sub 1 rfl) (CellsAt.one rfl) ?_)
  refine s_op (o_move (v := (.int .i64 k)) rfl ?_)
  refine s_op (o_dirOut (k := k) Tryz.underlying79 (key_int Tryz.underlying3) ti123 rfl rfl f6 (hH8.front 3 rfl) (fun hN22 => ?_) (fun b24 v25 sx26 sr27 hS23 hx28 hh29 hH30 => ?_))
  · -- none
    exact absurd (Eq.trans (Eq.symm hgf) hN22) (by simp)
  · -- some
    have e_ : f = v25 := Option.some.inj (Eq.trans (Eq.symm hgf) hS23)
    subst e_
    refine s_op (o_assign (v := (.pointer (some ⟨b24, 0, none⟩))) rfl ?_)
    refine s_nil ?_
    refine t_norm (hK21 _ _ ?_)
    refine wp_seq_k fun K31 hK31 => ?_
    refine wp_seq_k fun K32 hK32 => ?_
    refine c_region ?_
    refine s_op (o_move (v := (.pointer (some ⟨b24, 0, none⟩))) rfl ?_)
    refine s_op (o_pnil (p := some _) Tryz.underlying123 rfl rfl ?_)
    refine s_nil ?_
    refine t_norm (hK32 _ _ ?_)
    refine c_false rfl rfl ?_
    refine wp_skip ?_
    refine t_norm (hK31 _ _ ?_)
    refine wp_seq_k fun K33 hK33 => ?_
    refine c_region ?_
    refine s_op (o_move (v := (.func (.func 80) #[] #[(.pointer (some ⟨hb, 0, none⟩)), (.pointer (some ⟨pb, 0, none⟩)), (.pointer (some ⟨nb, 0, none⟩))])) rfl ?_)
    refine s_op (o_move (v := (.pointer (some ⟨b24, 0, none⟩))) rfl ?_)
    have hd35 : BxAt nb [Hp.one nb (.cells #[(.int .i64 m.n)] 3 (0, 0))] m := rfl
    refine s_op (o_callf (vs := #[(.pointer (some ⟨b24, 0, none⟩)), (.pointer (some ⟨hb, 0, none⟩)), (.pointer (some ⟨pb, 0, none⟩)), (.pointer (some ⟨nb, 0, none⟩))]) ca80 rfl (args1c3 rfl) (flf_ok (v := f) (h := h) (pl := pl) (m := m) (mb := x2) (rm := v.room) (t := v.tw) (kk := kk) (((hH30.front 4 rfl).front 3 rfl).front 2 rfl).all3 hx28 (h_hb.mono (seg_sub 2 rfl)) (h_pb.mono (seg_sub 2 rfl)) hd35 ((CellsAt.one rfl).mono (seg_sub 1 rfl)) f5 (hg.mono (seg_sub 2 rfl)) hd hle hs0 hmm hok hfw hkk) ?_)
    rintro _ w44 ⟨sg36, sg38, sg40, rfl, hd37, hd39, hd41, hX42⟩
    refine ⟨_, rfl, ?_⟩
    have hH43 : Has E w44 [sg36, sg38, sg40, sr27, [Hp.one pl (.cells #[(.pointer (some ⟨x1, 0, none⟩)), (.int .i64 v.room), (.map (some x2))] 81 (0, 0))], R] := hX42.of_all3
    refine s_op (o_assign (v := (.int .i64 0)) rfl ?_)
    refine s_nil ?_
    refine t_norm (hK33 _ _ ?_)
    refine wp_seq_k fun K45 hK45 => ?_
    refine c_region ?_
    refine s_op (o_move (v := (.int .i64 0)) rfl ?_)
    refine s_op (o_neq (a := 0) (b := 0) rfl rfl ?_)
    refine s_nil ?_
    refine t_norm (hK45 _ _ ?_)
    refine c_false rfl rfl ?_
    refine wp_skip ?_
    refine b_norm ?_
    refine t_norm (hK16 _ _ ?_)
    refine c_region ?_
    refine s_op (o_add (a := 0) (b := 1) (c := 1) rfl rfl (by decide) ?_)
    refine s_op (o_move (v := (.int .i64 1)) rfl ?_)
    refine s_nil ?_
    refine t_norm (u_round ?_)
    refine wp_seq_k fun K46 hK46 => ?_
    refine c_region ?_
    refine s_op (o_lss (a := 1) (b := 1) rfl rfl ?_)
    refine s_nil ?_
    refine t_norm (hK46 _ _ ?_)
    refine wp_seq_k fun K47 hK47 => ?_
    refine c_false rfl rfl ?_
    refine wp_exit ?_
    refine t_exit (t_exit (x_in (?_)))
    refine t_norm (hK12 _ _ ?_)
    refine wp_seq_k fun K48 hK48 => ?_
    refine c_region ?_
    refine s_op (o_assign (v := (.int .i64 0)) rfl ?_)
    refine s_nil ?_
    refine t_norm (hK48 _ _ ?_)
    refine wp_ret ?_
    refine c_ret1 Tryz.results79  (v := (.int .i64 0)) rfl ?_
    obtain ⟨sg49, hd50, hH51⟩ := DirHole.close hh29 hd37 ((hH43.front 3 rfl).front 1 rfl)
    have hd50 : DirAt iV FrmAt x2 sg49 (putB v.fr k (⟨f.no, f.gsn, f.cells, false, f.first, f.pins⟩ : Frm)) := hd50
    have hH52 : Has E w44 [([Hp.one pl (.cells #[(.pointer (some ⟨x1, 0, none⟩)), (.int .i64 v.room), (.map (some x2))] 81 (0, 0))] ++ (sg40 ++ sg49)), sg38, R] := Has.cl3 ((hH51.front 2 rfl).front 3 rfl)
    have hd53 : PolAt pl ([Hp.one pl (.cells #[(.pointer (some ⟨x1, 0, none⟩)), (.int .i64 v.room), (.map (some x2))] 81 (0, 0))] ++ (sg40 ++ sg49)) (⟨((st1 v.tw.1 v.tw.2 (pgF f)).2, v.tw.2), v.room, (putB v.fr k (⟨f.no, f.gsn, f.cells, false, f.first, f.pins⟩ : Frm))⟩ : PolS) := PolAt.mk (v := (⟨((st1 v.tw.1 v.tw.2 (pgF f)).2, v.tw.2), v.room, (putB v.fr k (⟨f.no, f.gsn, f.cells, false, f.first, f.pins⟩ : Frm))⟩ : PolS)) hd41 hd50
    have q54 : (⟨((st1 v.tw.1 v.tw.2 (pgF f)).2, v.tw.2), v.room, putB v.fr k ⟨f.no, f.gsn, f.cells, false, f.first, f.pins⟩⟩ : PolS) = (⟨((st1 v.tw.1 v.tw.2 (pgF f)).2, v.tw.2), v.room, (putB v.fr k (⟨f.no, f.gsn, f.cells, false, f.first, f.pins⟩ : Frm))⟩ : PolS) := by rfl
    exact ⟨_, _, rfl, (by rw [q54]; exact hd53), hd39, hH52⟩
end Go.Q
namespace Go.Q
open Go.Proofs
set_option linter.unusedVariables false
set_option maxRecDepth 100000
attribute [local irreducible] wpList OK Code.wp
set_option maxHeartbeats 4000000 in
theorem flush_busy {E w : World} {R : List Hp} {pl : Nat} {sg_pl : List Hp} {v : PolS} {h : Int}  {k : Int} {f : Frm} (hH : Has E w [sg_pl, R]) (h_pl : PolAt pl sg_pl v) (hfr : v.fr = [(k, f)]) (hkw : ∀ p ∈ v.fr, (Lit.int .i64 p.1).wf = true) (hkn : v.fr.length ≤ 1000000) (hd : f.dirty = true) (hbz : h < f.gsn) :
    Calls Tryz.prog 39 #[(.pointer (some ⟨pl, 0, none⟩)), (.int .i64 h), (.slice none 0 0)] w fun e w' => ∃ (sg_pl' : List Hp), e = .returned (.tuple #[(.int .i64 0), (.int .i64 10)]) ∧ (PolAt pl sg_pl' v) ∧ Has E w' [sg_pl', R] := by
  have hgk_ : getB v.fr k = some f := by rw [hfr, getB, if_pos rfl]
  obtain ⟨x1, x2, s3, s4, rfl, f5, f6⟩ := h_pl
  have hH7 : Has E w [[Hp.one pl (.cells #[(.pointer (some ⟨x1, 0, none⟩)), (.int .i64 v.room), (.map (some x2))] 81 (0, 0))], s3, s4, R] := Has.op3 hH
  refine c_enter (args := [(.pointer (some ⟨pl, 0, none⟩)), (.int .i64 h), (.slice none 0 0)]) Tryz.func39 rfl Tryz.ntmps39 (by simp) ?_
  refine wp_seq_k fun K8 hK8 => ?_
  refine c_region ?_
  refine s_op (o_box (cs := #[(.pointer (some ⟨pl, 0, none⟩))]) rfl rfl hH7 fun b9 w10 hH11 => ?_)
  refine s_op (o_box (cs := #[(.int .i64 h)]) rfl rfl hH11 fun b12 w13 hH14 => ?_)
  refine s_op (o_assign (v := (.int .i64 0)) rfl ?_)
  refine s_op (o_assign (v := (.int .i64 0)) rfl ?_)
  refine s_nil ?_
  refine t_norm (hK8 _ _ ?_)
  refine wp_seq_k fun K15 hK15 => ?_
  refine c_region ?_
  refine s_op (o_alloc (cs := #[(.int .i64 0)]) ti3 rfl hH14 fun b16 w17 hH18 => ?_)
  refine s_eff (o_store1 (c' := #[(.int .i64 0)]) ti3 rfl rfl rfl (by simp) rfl (hH18.front 0 rfl) fun w19 hH20 => ?_)
  refine s_nil ?_
  refine t_norm (hK15 _ _ ?_)
  refine wp_seq_k fun K21 hK21 => ?_
  refine wp_seq_k fun K22 hK22 => ?_
  refine c_region ?_
  refine s_op (o_move (v := (.slice none 0 0)) rfl ?_)
  refine s_op (o_lenS Tryz.underlying40 rfl (sl_nil (L := []) 1) ?_)
  refine s_op (o_eql (a := ((0 : Nat) : Int)) (b := 0) rfl rfl ?_)
  refine s_nil ?_
  refine t_norm (hK22 _ _ ?_)
  refine c_true rfl rfl ?_
  refine wp_seq_k fun K23 hK23 => ?_
  refine c_region ?_
  refine s_op (o_load1 (v := (.pointer (some ⟨pl, 0, none⟩))) Tryz.underlying65 rfl rfl hH20 (seg_sub 2 rfl) (CellsAt.one rfl) ?_)
  have hH24 : Has E w19 [([Hp.one pl (.cells #[(.pointer (some ⟨x1, 0, none⟩)), (.int .i64 v.room), (.map (some x2))] 81 (0, 0))] ++ (s3 ++ s4)), [Hp.one b16 (.cells #[(.int .i64 0)] 3 (0, 0))], [Hp.one b12 (.cells #[(.int .i64 h)] 3 (0, 0))], [Hp.one b9 (.cells #[(.pointer (some ⟨pl, 0, none⟩))] 65 (0, 0))], R] := Has.cl3 (((hH20.front 5 rfl).front 5 rfl).front 5 rfl)
  have hd25 : PolAt pl ([Hp.one pl (.cells #[(.pointer (some ⟨x1, 0, none⟩)), (.int .i64 v.room), (.map (some x2))] 81 (0, 0))] ++ (s3 ++ s4)) v := PolAt.mk (v := v) f5 f6
  refine s_op (o_callf (vs := #[(.pointer (some ⟨pl, 0, none⟩))]) ca45 rfl (args1 rfl) (dirty_one (v := v) (k := k) (f := f) hH24.all1 hd25 hfr hkw hkn hd) ?_)
  rintro _ w33 ⟨v26, s27, sg29, rfl, ho28, hd30, hX31⟩
  refine ⟨_, rfl, ?_⟩
  have hH32 : Has E w33 [s27, sg29, [Hp.one b16 (.cells #[(.int .i64 0)] 3 (0, 0))], [Hp.one b12 (.cells #[(.int .i64 h)] 3 (0, 0))], [Hp.one b9 (.cells #[(.pointer (some ⟨pl, 0, none⟩))] 65 (0, 0))], R] := hX31.of_all2
  refine s_op (o_lenS Tryz.underlying86 rfl ho28.sl ?_)
  refine s_op (o_move (v := (.int .i64 0)) rfl ?_)
  refine s_nil ?_
  refine t_norm (hK23 _ _ ?_)
  refine wp_block ?_
  refine u_loop 3 (u_round ?_)
  refine wp_seq_k fun K34 hK34 => ?_
  refine c_region ?_
  refine s_op (o_lss (a := 0) (b := 1) rfl rfl ?_)
  refine s_nil ?_
  refine t_norm (hK34 _ _ ?_)
  refine wp_seq_k fun K35 hK35 => ?_
  refine c_true rfl rfl ?_
  refine wp_skip ?_
  refine t_norm (hK35 _ _ ?_)
  refine wp_seq_k fun K36 hK36 => ?_
  refine wp_block ?_
  refine wp_seq_k fun K37 hK37 => ?_
  refine c_region ?_
  refine s_op (o_indexF drC_len Tryz.underlying86 ti128 rfl ho28.sl rfl rfl (by omega) (show [(k, f.first)][((0 : Int)).toNat]? = some (k, f.first) from rfl) fun b38 o39 hc40 => ?_)
  refine s_op (o_loadN (cs := [(.int .i64 ((k, f.first).1)), (.int .i64 ((k, f.first).2))]) Tryz.underlying128 rfl ti128 rfl hH32 (seg_sub 0 rfl) hc40 ?_)
  refine s_op (o_alloc (cs := #[(.int .i64 0), (.int .i64 0)]) ti128 rfl hH32 fun b41 w42 hH43 => ?_)
  refine s_eff (o_storeN (vs := [(.int .i64 ((k, f.first).1)), (.int .i64 ((k, f.first).2))]) (c' := #[(.int .i64 ((k, f.first).1)), (.int .i64 ((k, f.first).2))]) ti128 rfl rfl rfl rfl (by intro u hu; simp only [List.mem_cons, List.not_mem_nil, or_false] at hu; rcases hu with rfl | rfl <;> first | rfl) (by simp) (by kernel_rfl) (hH43.front 0 rfl) fun w44 hH45 => ?_)
  refine s_nil ?_
  refine t_norm (hK37 _ _ ?_)
  refine c_region ?_
  refine s_op (o_move (v := (.slice none 0 0)) rfl ?_)
  refine s_op (o_fieldAddr (k := 0) (fun _ => by kernel_rfl) rfl ?_)
  refine s_op (o_load1 (v := (.int .i64 ((k, f.first).1))) Tryz.underlying3 rfl rfl hH45 (seg_sub 0 rfl) (CellsAt.one rfl) ?_)
  refine s_op (o_buildSlice (ps := #[(0, (.int .i64 ((k, f.first).1)))]) (cells := #[(.int .i64 ((k, f.first).1))]) Tryz.underlying40 ti3 (by decide) (parts1 rfl) (by kernel_rfl) hH45 fun b46 w47 hH48 => ?_)
  refine s_op (o_append Tryz.underlying40 ti3 rfl (by decide) rfl (Own.nil 3 1) rfl (sl_lit (f := iV) (l := [(k, f.first).1]) (g := (0, 0)) (T := 3) rfl rfl (by simp)) (Has.nil hH48) (seg_sub 0 rfl) (one_iV _) (by simp) (by simp) fun v49 s50 w52 ho51 hH53 => ?_)
  have ho51 : Own 3 1 v49 [(k, f.first).1].length ([(k, f.first).1].map iV) s50 := Own.app (a := []) ho51
  refine s_op (o_assign (v := v49) rfl ?_)
  refine s_nil ?_
  refine b_norm ?_
  refine t_norm (hK36 _ _ ?_)
  refine c_region ?_
  refine s_op (o_add (a := 0) (b := 1) (c := 1) rfl rfl (by decide) ?_)
  refine s_op (o_move (v := (.int .i64 1)) rfl ?_)
  refine s_nil ?_
  refine t_norm (u_round ?_)
  refine wp_seq_k fun K54 hK54 => ?_
  refine c_region ?_
  refine s_op (o_lss (a := 1) (b := 1) rfl rfl ?_)
  refine s_nil ?_
  refine t_norm (hK54 _ _ ?_)
  refine wp_seq_k fun K55 hK55 => ?_
  refine c_false rfl rfl ?_
  refine wp_exit ?_
  refine t_exit (t_exit (x_in (?_)))
  refine t_norm (hK21 _ _ ?_)
  refine wp_seq_k fun K56 hK56 => ?_
  refine c_region ?_
  refine s_op (o_load1 (v := (.pointer (some ⟨pl, 0, none⟩))) Tryz.underlying65 rfl rfl hH53 (seg_sub 7 rfl) (CellsAt.one rfl) ?_)
  refine s_op (o_move (v := v49) rfl ?_)
  refine s_op (o_makeFunc (vs := #[(.pointer (some ⟨b12, 0, none⟩)), (.pointer (some ⟨b9, 0, none⟩)), (.pointer (some ⟨b16, 0, none⟩))]) (cap3 rfl rfl rfl) ?_)
  have hd58 : BxAt b16 [Hp.one b16 (.cells #[(.int .i64 0)] 3 (0, 0))] (⟨0⟩ : BxS) := rfl
  refine s_op (o_callf (vs := #[(.pointer (some ⟨pl, 0, none⟩)), v49, (.func (.func 80) #[] #[(.pointer (some ⟨b12, 0, none⟩)), (.pointer (some ⟨b9, 0, none⟩)), (.pointer (some ⟨b16, 0, none⟩))])]) ca79 rfl (args3 rfl rfl rfl) (each_busy (v := v) (k := (k, f.first).1) (h := h) (m := (⟨0⟩ : BxS)) (f := f) ((hH53.front 5 rfl).front 5 rfl).all2 hd30 (ho51.sl.mono (seg_sub 0 rfl)) ((CellsAt.one rfl).mono (seg_sub 4 rfl)) ((CellsAt.one rfl).mono (seg_sub 5 rfl)) hd58 (show getB v.fr k = some f from hgk_) hd hbz) ?_)
  rintro _ w65 ⟨sg59, sg61, rfl, hd60, hd62, hX63⟩
  refine ⟨_, rfl, ?_⟩
  have hH64 : Has E w65 [sg59, sg61, s50, [Hp.one b46 (.cells #[(.int .i64 ((k, f.first).1))] 3 (0, 0))], [Hp.one b41 (.cells #[(.int .i64 ((k, f.first).1)), (.int .i64 ((k, f.first).2))] 128 (0, 0))], s27, [Hp.one b12 (.cells #[(.int .i64 h)] 3 (0, 0))], [Hp.one b9 (.cells #[(.pointer (some ⟨pl, 0, none⟩))] 65 (0, 0))], R] := hX63.of_all2
  refine s_op (o_assign (v := (.int .i64 10)) rfl ?_)
  refine s_nil ?_
  refine t_norm (hK56 _ _ ?_)
  refine wp_seq_k fun K66 hK66 => ?_
  refine c_region ?_
  obtain rfl := (show sg61 = _ from hd62)
  have hH67 := (hH64.front 1 rfl)
  refine s_op (o_load1 (v := (.int .i64 ((⟨0⟩ : BxS).n))) Tryz.underlying3 rfl rfl hH67 (seg_sub 0 rfl) (CellsAt.one rfl) ?_)
  refine s_op (o_move (v := (.int .i64 10)) rfl ?_)
  refine s_op (o_assign (v := (.int .i64 ((⟨0⟩ : BxS).n))) rfl ?_)
  refine s_op (o_assign (v := (.int .i64 10)) rfl ?_)
  refine s_nil ?_
  refine t_norm (hK66 _ _ ?_)
  refine wp_ret ?_
  refine c_ret2 Tryz.results39  (v := (.int .i64 ((⟨0⟩ : BxS).n))) rfl (x := (.int .i64 10)) rfl ?_
  have hH68 : Has E w65 [sg59, R] := ((hH67.front 8 rfl).front 2 rfl).first 2 rfl
  exact ⟨_, rfl, hd60, hH68⟩
set_option maxHeartbeats 4000000 in
theorem flush_ok {E w : World} {R : List Hp} {pl : Nat} {sg_pl : List Hp} {v : PolS} {h : Int}  {k : Int} {f : Frm} {kk : Nat} (hH : Has E w [sg_pl, R]) (h_pl : PolAt pl sg_pl v) (hg : CellsAt R 1 0 nibV) (hfr : v.fr = [(k, f)]) (hkw : ∀ p ∈ v.fr, (Lit.int .i64 p.1).wf = true) (hkn : v.fr.length ≤ 1000000) (hd : f.dirty = true) (hle : f.gsn ≤ h) (hs0 : (st1 v.tw.1 v.tw.2 (pgF f)).1 = 0) (hok : TwOk v.tw) (hfw : Few v.tw.1.p kk) (hkk : kk ≤ 700000) :
    Calls Tryz.prog 39 #[(.pointer (some ⟨pl, 0, none⟩)), (.int .i64 h), (.slice none 0 0)] w fun e w' => ∃ (sg_pl' : List Hp), e = .returned (.tuple #[(.int .i64 1), (.int .i64 0)]) ∧ (PolAt pl sg_pl' (⟨((st1 v.tw.1 v.tw.2 (pgF f)).2, v.tw.2), v.room, putB v.fr k ⟨f.no, f.gsn, f.cells, false, f.first, f.pins⟩⟩ : PolS)) ∧ Has E w' [sg_pl', R] := by
  have hgk_ : getB v.fr k = some f := by rw [hfr, getB, if_pos rfl]
  obtain ⟨x1, x2, s3, s4, rfl, f5, f6⟩ := h_pl
  have hH7 : Has E w [[Hp.one pl (.cells #[(.pointer (some ⟨x1, 0, none⟩)), (.int .i64 v.room), (.map (some x2))] 81 (0, 0))], s3, s4, R] := Has.op3 hH
  refine c_enter (args := [(.pointer (some ⟨pl, 0, none⟩)), (.int .i64 h), (.slice none 0 0)]) Tryz.func39 rfl Tryz.ntmps39 (by simp) ?_
  refine wp_seq_k fun K8 hK8 => ?_
  refine c_region ?_
  refine s_op (o_box (cs := #[(.pointer (some ⟨pl, 0, none⟩))]) rfl rfl hH7 fun b9 w10 hH11 => ?_)
  refine s_op (o_box (cs := #[(.int .i64 h)]) rfl rfl hH11 fun b12 w13 hH14 => ?_)
  refine s_op (o_assign (v := (.int .i64 0)) rfl ?_)
  refine s_op (o_assign (v := (.int .i64 0)) rfl ?_)
  refine s_nil ?_
  refine t_norm (hK8 _ _ ?_)
  refine wp_seq_k fun K15 hK15 => ?_
  refine c_region ?_
  refine s_op (o_alloc (cs := #[(.int .i64 0)]) ti3 rfl hH14 fun b16 w17 hH18 => ?_)
  refine s_eff (o_store1 (c' := #[(.int .i64 0)]) ti3 rfl rfl rfl (by simp) rfl (hH18.front 0 rfl) fun w19 hH20 => ?_)
  refine s_nil ?_
  refine t_norm (hK15 _ _ ?_)
  refine wp_seq_k fun K21 hK21 => ?_
  refine wp_seq_k fun K22 hK22 => ?_
  refine c_region ?_
  refine s_op (o_move (v := (.slice none 0 0)) rfl ?_)
  refine s_op (o_lenS Tryz.underlying40 rfl (sl_nil (L := []) 1) ?_)
  refine s_op (o_eql (a := ((0 : Nat) : Int)) (b := 0) rfl rfl ?_)
  refine s_nil ?_
  refine t_norm (hK22 _ _ ?_)
  refine c_true rfl rfl ?_
  refine wp_seq_k fun K23 hK23 => ?_
  refine c_region ?_
  refine s_op (o_load1 (v := (.pointer (some ⟨pl, 0, none⟩))) Tryz.underlying65 rfl rfl hH20 (seg_sub 2 rfl) (CellsAt.one rfl) ?_)
  have hH24 : Has E w19 [([Hp.one pl (.cells #[(.pointer (some ⟨x1, 0, none⟩)), (.int .i64 v.room), (.map (some x2))] 81 (0, 0))] ++ (s3 ++ s4)), [Hp.one b16 (.cells #[(.int .i64 0)] 3 (0, 0))], [Hp.one b12 (.cells #[(.int .i64 h)] 3 (0, 0))], [Hp.one b9 (.cells #[(.pointer (some ⟨pl, 0, none⟩))] 65 (0, 0))], R] := Has.cl3 (((hH20.front 5 rfl).front 5 rfl).front 5 rfl)
  have hd25 : PolAt pl ([Hp.one pl (.cells #[(.pointer (some ⟨x1, 0, none⟩)), (.int .i64 v.room), (.map (some x2))] 81 (0, 0))] ++ (s3 ++ s4)) v := PolAt.mk (v := v) f5 f6
  refine s_op (o_callf (vs := #[(.pointer (some ⟨pl, 0, none⟩))]) ca45 rfl (args1 rfl) (dirty_one (v := v) (k := k) (f := f) hH24.all1 hd25 hfr hkw hkn hd) ?_)
  rintro _ w33 ⟨v26, s27, sg29, rfl, ho28, hd30, hX31⟩
  refine ⟨_, rfl, ?_⟩
  have hH32 : Has E w33 [s27, sg29, [Hp.one b16 (.cells #[(.int .i64 0)] 3 (0, 0))], [Hp.one b12 (.cells #[(.int .i64 h)] 3 (0, 0))], [Hp.one b9 (.cells #[(.pointer (some ⟨pl, 0, none⟩))] 65 (0, 0))], R] := hX31.of_all2
  refine s_op (o_lenS Tryz.underlying86 rfl ho28.sl ?_)
  refine s_op (o_move (v := (.int .i64 0)) rfl ?_)
  refine s_nil ?_
  refine t_norm (hK23 _ _ ?_)
  refine wp_block ?_
  refine u_loop 3 (u_round ?_)
  refine wp_seq_k fun K34 hK34 => ?_
  refine c_region ?_
  refine s_op (o_lss (a := 0) (b := 1) rfl rfl ?_)
  refine s_nil ?_
  refine t_norm (hK34 _ _ ?_)
  refine wp_seq_k fun K35 hK35 => ?_
  refine c_true rfl rfl ?_
  refine wp_skip ?_
  refine t_norm (hK35 _ _ ?_)
  refine wp_seq_k fun K36 hK36 => ?_
  refine wp_block ?_
  refine wp_seq_k fun K37 hK37 => ?_
  refine c_region ?_
  refine s_op (o_indexF drC_len Tryz.underlying86 ti128 rfl ho28.sl rfl rfl (by omega) (show [(k, f.first)][((0 : Int)).toNat]? = some (k, f.first) from rfl) fun b38 o39 hc40 => ?_)
  refine s_op (o_loadN (cs := [(.int .i64 ((k, f.first).1)), (.int .i64 ((k, f.first).2))]) Tryz.underlying128 rfl ti128 rfl hH32 (seg_sub 0 rfl) hc40 ?_)
  refine s_op (o_alloc (cs := #[(.int .i64 0), (.int .i64 0)]) ti128 rfl hH32 fun b41 w42 hH43 => ?_)
  refine s_eff (o_storeN (vs := [(.int .i64 ((k, f.first).1)), (.int .i64 ((k, f.first).2))]) (c' := #[(.int .i64 ((k, f.first).1)), (.int .i64 ((k, f.first).2))]) ti128 rfl rfl rfl rfl (by intro u hu; simp only [List.mem_cons, List.not_mem_nil, or_false] at hu; rcases hu with rfl | rfl <;> first | rfl) (by simp) (by kernel_rfl) (hH43.front 0 rfl) fun w44 hH45 => ?_)
  refine s_nil ?_
  refine t_norm (hK37 _ _ ?_)
  refine c_region ?_
  refine s_op (o_move (v := (.slice none 0 0)) rfl ?_)
  refine s_op (o_fieldAddr (k := 0) (fun _ => by kernel_rfl) rfl ?_)
  refine s_op (o_load1 (v := (.int .i64 ((k, f.first).1))) Tryz.underlying3 rfl rfl hH45 (seg_sub 0 rfl) (CellsAt.one rfl) ?_)
  refine s_op (o_buildSlice (ps := #[(0, (.int .i64 ((k, f.first).1)))]) (cells := #[(.int .i64 ((k, f.first).1))]) Tryz.underlying40 ti3 (by decide) (parts1 rfl) (by kernel_rfl) hH45 fun b46 w47 hH48 => ?_)
  refine s_op (o_append Tryz.underlying40 ti3 rfl (by decide) rfl (Own.nil 3 1) rfl (sl_lit (f := iV) (l := [(k, f.first).1]) (g := (0, 0)) (T := 3) rfl rfl (by simp)) (Has.nil hH48) (seg_sub 0 rfl) (one_iV _) (by simp) (by simp) fun v49 s50 w52 ho51 hH53 => ?_)
  have ho51 : Own 3 1 v49 [(k, f.first).1].length ([(k, f.first).1].map iV) s50 := Own.app (a := []) ho51
  refine s_op (o_assign (v := v49) rfl ?_)
  refine s_nil ?_
  refine b_norm ?_
  refine t_norm (hK36 _ _ ?_)
  refine c_region ?_
  refine s_op (o_add (a := 0) (b := 1) (c := 1) rfl rfl (by decide) ?_)
  refine s_op (o_move (v := (.int .i64 1)) rfl ?_)
  refine s_nil ?_
  refine t_norm (u_round ?_)
  refine wp_seq_k fun K54 hK54 => ?_
  refine c_region ?_
  refine s_op (o_lss (a := 1) (b := 1) rfl rfl ?_)
  refine s_nil ?_
  refine t_norm (hK54 _ _ ?_)
  refine wp_seq_k fun K55 hK55 => ?_
  refine c_false rfl rfl ?_
  refine wp_exit ?_
  refine t_exit (t_exit (x_in (?_)))
  refine t_norm (hK21 _ _ ?_)
  refine wp_seq_k fun K56 hK56 => ?_
  refine c_region ?_
  refine s_op (o_load1 (v := (.pointer (some ⟨pl, 0, none⟩))) Tryz.underlying65 rfl rfl hH53 (seg_sub 7 rfl) (CellsAt.one rfl) ?_)
  refine s_op (o_move (v := v49) rfl ?_)
  refine s_op (o_makeFunc (vs := #[(.pointer (some ⟨b12, 0, none⟩)), (.pointer (some ⟨b9, 0, none⟩)), (.pointer (some ⟨b16, 0, none⟩))]) (cap3 rfl rfl rfl) ?_)
  have hd58 : BxAt b16 [Hp.one b16 (.cells #[(.int .i64 0)] 3 (0, 0))] (⟨0⟩ : BxS) := rfl
  refine s_op (o_callf (vs := #[(.pointer (some ⟨pl, 0, none⟩)), v49, (.func (.func 80) #[] #[(.pointer (some ⟨b12, 0, none⟩)), (.pointer (some ⟨b9, 0, none⟩)), (.pointer (some ⟨b16, 0, none⟩))])]) ca79 rfl (args3 rfl rfl rfl) (each_ok (v := v) (k := (k, f.first).1) (h := h) (m := (⟨0⟩ : BxS)) (f := f) (kk := kk) ((hH53.front 5 rfl).front 5 rfl).all2 hd30 (ho51.sl.mono (seg_sub 0 rfl)) ((CellsAt.one rfl).mono (seg_sub 4 rfl)) ((CellsAt.one rfl).mono (seg_sub 5 rfl)) hd58 (hg.mono (seg_sub 6 rfl)) (show getB v.fr k = some f from hgk_) hd hle hs0 ⟨by decide, by decide⟩ hok hfw hkk) ?_)
  rintro _ w65 ⟨sg59, sg61, rfl, hd60, hd62, hX63⟩
  refine ⟨_, rfl, ?_⟩
  have hH64 : Has E w65 [sg59, sg61, s50, [Hp.one b46 (.cells #[(.int .i64 ((k, f.first).1))] 3 (0, 0))], [Hp.one b41 (.cells #[(.int .i64 ((k, f.first).1)), (.int .i64 ((k, f.first).2))] 128 (0, 0))], s27, [Hp.one b12 (.cells #[(.int .i64 h)] 3 (0, 0))], [Hp.one b9 (.cells #[(.pointer (some ⟨pl, 0, none⟩))] 65 (0, 0))], R] := hX63.of_all2
  refine s_op (o_assign (v := (.int .i64 0)) rfl ?_)
  refine s_nil ?_
  refine t_norm (hK56 _ _ ?_)
  refine wp_seq_k fun K66 hK66 => ?_
  refine c_region ?_
  obtain rfl := (show sg61 = _ from hd62)
  have hH67 := (hH64.front 1 rfl)
  refine s_op (o_load1 (v := (.int .i64 ((⟨(⟨0⟩ : BxS).n + 1⟩ : BxS).n))) Tryz.underlying3 rfl rfl hH67 (seg_sub 0 rfl) (CellsAt.one rfl) ?_)
  refine s_op (o_move (v := (.int .i64 0)) rfl ?_)
  refine s_op (o_assign (v := (.int .i64 ((⟨(⟨0⟩ : BxS).n + 1⟩ : BxS).n))) rfl ?_)
  refine s_op (o_assign (v := (.int .i64 0)) rfl ?_)
  refine s_nil ?_
  refine t_norm (hK66 _ _ ?_)
  refine wp_ret ?_
  refine c_ret2 Tryz.results39  (v := (.int .i64 ((⟨(⟨0⟩ : BxS).n + 1⟩ : BxS).n))) rfl (x := (.int .i64 0)) rfl ?_
  have q68 : (⟨((st1 v.tw.1 v.tw.2 (pgF f)).2, v.tw.2), v.room, putB v.fr k ⟨f.no, f.gsn, f.cells, false, f.first, f.pins⟩⟩ : PolS) = (⟨((st1 v.tw.1 v.tw.2 (pgF f)).2, v.tw.2), v.room, putB v.fr ((k, f.first).1) ⟨f.no, f.gsn, f.cells, false, f.first, f.pins⟩⟩ : PolS) := by rfl
  have hH69 : Has E w65 [sg59, R] := ((hH67.front 8 rfl).front 2 rfl).first 2 rfl
  exact ⟨_, rfl, (by rw [q68]; exact hd60), hH69⟩
end Go.Q
namespace Go.Q
open Go.Proofs
set_option linter.unusedVariables false
set_option maxRecDepth 100000
attribute [local irreducible] wpList OK Code.wp
theorem new_nilI {E w : World} {R : List Hp} (hH : Has E w [R]) {x : Int} {n : Nat} (hx : x = (n : Int)) (hn : 1 ≤ n ∧ n ≤ 4096) :
    Calls Tryz.prog 14 #[(.pointer none), (.int .i64 x)] w fun e w' => ∃ db pb sg, e = .returned (.pointer (some ⟨db, 0, none⟩)) ∧ DevAt pb sg db (List.replicate n blankS) [] ∧ Has E w' [sg, [Hp.one pb (.cells #[(.bool false), (.bool false), (.int .i64 0), (.int .i64 0)] 101 (0, 0))], R] := by
  subst hx
  exact new_nil hH hn
end Go.Q
namespace Go.Q
open Go.Proofs
set_option linter.unusedVariables false
set_option maxRecDepth 100000
attribute [local irreducible] wpList OK Code.wp
set_option maxHeartbeats 4000000 in
theorem pnew_c {E w : World} {R : List Hp} {tb : Nat} {sg_tb : List Hp} {t : TwS} {n : Int}  (hH : Has E w [sg_tb, R]) (h_tb : TwAt tb sg_tb t) (hn : 1 ≤ n) :
    Calls Tryz.prog 42 #[(.pointer (some ⟨tb, 0, none⟩)), (.int .i64 n)] w fun e w' => ∃ (b1' : Nat) (sg2' : List Hp), e = .returned (.pointer (some ⟨b1', 0, none⟩)) ∧ (PolAt b1' sg2' (⟨t, n, []⟩ : PolS)) ∧ Has E w' [sg2', R] := by
  refine c_enter (args := [(.pointer (some ⟨tb, 0, none⟩)), (.int .i64 n)]) Tryz.func42 rfl Tryz.ntmps42 (by simp) ?_
  refine wp_seq_k fun K1 hK1 => ?_
  refine c_region ?_
  refine s_op (o_assign (v := (.pointer none)) rfl ?_)
  refine s_nil ?_
  refine t_norm (hK1 _ _ ?_)
  refine wp_seq_k fun K2 hK2 => ?_
  refine wp_seq_k fun K3 hK3 => ?_
  refine c_region ?_
  refine s_op (o_move (v := (.pointer (some ⟨tb, 0, none⟩))) rfl ?_)
  refine s_op (o_pnil (p := some _) Tryz.underlying25 rfl rfl ?_)
  refine s_op (o_move (v := (.bool false)) rfl ?_)
  refine s_on 7 rfl rfl (o_move (v := (.int .i64 n)) rfl ?_)
  refine s_on 7 rfl rfl (o_lss (a := n) (b := 1) rfl rfl ?_)
  refine s_op (o_pick_f (u := (.bool (decide (n < 1)))) rfl rfl ?_)
  refine s_nil ?_
  refine t_norm (hK3 _ _ ?_)
  refine c_cond rfl (fun h4 => ?_) (fun h4 => ?_)
  · -- n < 1
    exfalso; omega
  · -- not: n < 1
    refine wp_skip ?_
    refine t_norm (hK2 _ _ ?_)
    refine wp_seq_k fun K5 hK5 => ?_
    refine c_region ?_
    refine s_op (o_move (v := (.pointer (some ⟨tb, 0, none⟩))) rfl ?_)
    refine s_op (o_move (v := (.int .i64 n)) rfl ?_)
    refine s_op (o_makeMap hH fun m6 w7 hH8 => ?_)
    refine s_op (o_sight (v := (.agg #[(.pointer (some ⟨tb, 0, none⟩)), (.int .i64 n), (.map (some m6))])) (fun _ => by kernel_rfl) ?_)
    refine s_op (o_box (cs := #[(.pointer (some ⟨tb, 0, none⟩)), (.int .i64 n), (.map (some m6))]) rfl rfl hH8 fun b9 w10 hH11 => ?_)
    refine s_op (o_assign (v := (.pointer (some ⟨b9, 0, none⟩))) rfl ?_)
    refine s_nil ?_
    refine t_norm (hK5 _ _ ?_)
    refine wp_ret ?_
    refine c_ret1 Tryz.results42  (v := (.pointer (some ⟨b9, 0, none⟩))) rfl ?_
    have hd12 : DirAt iV FrmAt m6 [Hp.one m6 (.map #[] 0)] [] := DirAt.new
    have hH13 : Has E w10 [([Hp.one b9 (.cells #[(.pointer (some ⟨tb, 0, none⟩)), (.int .i64 n), (.map (some m6))] 81 (0, 0))] ++ (sg_tb ++ [Hp.one m6 (.map #[] 0)])), R] := Has.cl3 (((hH11.front 1 rfl).front 2 rfl).front 2 rfl)
    have hd14 : PolAt b9 ([Hp.one b9 (.cells #[(.pointer (some ⟨tb, 0, none⟩)), (.int .i64 n), (.map (some m6))] 81 (0, 0))] ++ (sg_tb ++ [Hp.one m6 (.map #[] 0)])) (⟨t, n, ([] : List (Int × Frm))⟩ : PolS) := PolAt.mk (v := (⟨t, n, ([] : List (Int × Frm))⟩ : PolS)) h_tb hd12
    have q15 : (⟨t, n, []⟩ : PolS) = (⟨t, n, ([] : List (Int × Frm))⟩ : PolS) := by rfl
    exact ⟨_, _, rfl, (by rw [q15]; exact hd14), hH13⟩
set_option maxHeartbeats 4000000 in
theorem begin13_c {E w : World} {R : List Hp} (hH : Has E w [R]) {n room : Int} {m : Nat} (hn : 1 ≤ n ∧ n ≤ 64) (hm : 5 + 4 * n = (m : Int)) (hroom : 1 ≤ room) :
    Calls Tryz.prog 35 #[(.int .i64 n), (.int .i64 room)] w fun e w' => ∃ pl db sg, e = .returned (.tuple #[.pointer (some ⟨pl, 0, none⟩), .pointer (some ⟨db, 0, none⟩)]) ∧ PolAt pl sg (⟨(dm m, n), room, []⟩ : PolS) ∧ Has E w' [sg, R] := by
  refine c_enter (args := [(.int .i64 n), (.int .i64 room)]) Tryz.func35 rfl Tryz.ntmps35 (by simp) ?_
  refine wp_seq_k fun K1 hK1 => ?_
  refine c_region ?_
  refine s_op (o_assign (v := (.pointer none)) rfl ?_)
  refine s_op (o_assign (v := (.pointer none)) rfl ?_)
  refine s_nil ?_
  refine t_norm (hK1 _ _ ?_)
  refine wp_seq_k fun K2 hK2 => ?_
  refine c_region ?_
  refine s_op (o_move (v := (.int .i64 n)) rfl ?_)
  refine s_op (o_mul (a := 4) (b := n) rfl rfl (w64 (by omega) (by omega)) ?_)
  refine s_op (o_add (a := 5) (b := 4 * n) rfl rfl (w64 (by omega) (by omega)) ?_)
  refine s_op (o_callf (vs := #[(.pointer none), (.int .i64 (5 + (4 * n)))]) ca14 rfl (args2 rfl rfl) (new_nilI hH.all (x := 5 + (4 * n)) (n := m) (by omega) (by omega)) ?_)
  rintro _ w9 ⟨db3, pb4, sg5, rfl, hd6, hX7⟩
  refine ⟨_, rfl, ?_⟩
  have hH8 : Has E w9 [sg5, [Hp.one pb4 (.cells #[(.bool (Pw.mk false false 0 0).off), (.bool (Pw.mk false false 0 0).armed), (.int .i64 (Pw.mk false false 0 0).left), (.int .i64 (Pw.mk false false 0 0).uses)] 101 (0, 0))], R] := hX7.of_all2
  refine s_op (o_assign (v := (.pointer (some ⟨db3, 0, none⟩))) rfl ?_)
  refine s_nil ?_
  refine t_norm (hK2 _ _ ?_)
  refine wp_seq_k fun K10 hK10 => ?_
  refine c_region ?_
  refine s_op (o_move (v := (.pointer (some ⟨db3, 0, none⟩))) rfl ?_)
  refine s_op (o_move (v := (.int .i64 n)) rfl ?_)
  refine s_op (o_callf (vs := #[(.pointer (some ⟨db3, 0, none⟩)), (.int .i64 n)]) ca13 rfl (args2 rfl rfl) (tfmt_ok (p := (Pw.mk false false 0 0)) (m := m) ((hH8.front 1 rfl).front 1 rfl).all2 hd6 (n := n) ⟨rfl, rfl⟩ Few.new (by decide) (by omega) hn (by omega)) ?_)
  rintro _ w16 ⟨tb11, sg12, rfl, hd13, hX14⟩
  refine ⟨_, rfl, ?_⟩
  have hH15 : Has E w16 [[Hp.one tb11 (.cells #[(.pointer (some ⟨db3, 0, none⟩)), (.int .i64 n)] 98 (0, 0))], sg12, [Hp.one pb4 (.cells #[(.bool (Pw.mk false false (0 - (((m : Nat) : Int) + 1)) (0 + (((m : Nat) : Int) + 1))).off), (.bool (Pw.mk false false (0 - (((m : Nat) : Int) + 1)) (0 + (((m : Nat) : Int) + 1))).armed), (.int .i64 (Pw.mk false false (0 - (((m : Nat) : Int) + 1)) (0 + (((m : Nat) : Int) + 1))).left), (.int .i64 (Pw.mk false false (0 - (((m : Nat) : Int) + 1)) (0 + (((m : Nat) : Int) + 1))).uses)] 101 (0, 0))], R] := hX14.of_all3
  refine s_op (o_move (v := (.tuple #[(.pointer (some ⟨tb11, 0, none⟩)), (.int .i64 (0 : Int))])) rfl ?_)
  refine s_op (o_extract (v := (.pointer (some ⟨tb11, 0, none⟩))) rfl rfl ?_)
  refine s_op (o_extract (v := (.int .i64 (0 : Int))) rfl rfl ?_)
  refine s_op (o_assign (v := (.pointer (some ⟨tb11, 0, none⟩))) rfl ?_)
  refine s_op (o_assign (v := (.int .i64 (0 : Int))) rfl ?_)
  refine s_nil ?_
  refine t_norm (hK10 _ _ ?_)
  refine wp_seq_k fun K17 hK17 => ?_
  refine wp_seq_k fun K18 hK18 => ?_
  refine c_region ?_
  refine s_op (o_move (v := (.int .i64 (0 : Int))) rfl ?_)
  refine s_op (o_neq (a := (0 : Int)) (b := 0) rfl rfl ?_)
  refine s_nil ?_
  refine t_norm (hK18 _ _ ?_)
  refine c_cond rfl (fun h19 => ?_) (fun h19 => ?_)
  · -- (0 : Int) ≠ 0
    exact absurd rfl h19
  · -- not: (0 : Int) ≠ 0
    refine wp_skip ?_
    refine t_norm (hK17 _ _ ?_)
    refine wp_seq_k fun K20 hK20 => ?_
    refine c_region ?_
    refine s_op (o_move (v := (.pointer (some ⟨tb11, 0, none⟩))) rfl ?_)
    refine s_op (o_move (v := (.int .i64 room)) rfl ?_)
    have ht21_ : TwAt tb11 (sg12 ++ ([Hp.one pb4 (.cells #[(.bool (Pw.mk false false (0 - (((m : Nat) : Int) + 1)) (0 + (((m : Nat) : Int) + 1))).off), (.bool (Pw.mk false false (0 - (((m : Nat) : Int) + 1)) (0 + (((m : Nat) : Int) + 1))).armed), (.int .i64 (Pw.mk false false (0 - (((m : Nat) : Int) + 1)) (0 + (((m : Nat) : Int) + 1))).left), (.int .i64 (Pw.mk false false (0 - (((m : Nat) : Int) + 1)) (0 + (((m : Nat) : Int) + 1))).uses)] 101 (0, 0))] ++ [Hp.one tb11 (.cells #[(.pointer (some ⟨db3, 0, none⟩)), (.int .i64 n)] 98 (0, 0))])) (dm m, n) ∧ Has E w16 [(sg12 ++ ([Hp.one pb4 (.cells #[(.bool (Pw.mk false false (0 - (((m : Nat) : Int) + 1)) (0 + (((m : Nat) : Int) + 1))).off), (.bool (Pw.mk false false (0 - (((m : Nat) : Int) + 1)) (0 + (((m : Nat) : Int) + 1))).armed), (.int .i64 (Pw.mk false false (0 - (((m : Nat) : Int) + 1)) (0 + (((m : Nat) : Int) + 1))).left), (.int .i64 (Pw.mk false false (0 - (((m : Nat) : Int) + 1)) (0 + (((m : Nat) : Int) + 1))).uses)] 101 (0, 0))] ++ [Hp.one tb11 (.cells #[(.pointer (some ⟨db3, 0, none⟩)), (.int .i64 n)] 98 (0, 0))])), R] := TwAt.mk (v := (dm m, n)) hd13 ((hH15.front 2 rfl).front 2 rfl)
    obtain ⟨ht21, hH22⟩ := ht21_
    refine s_op (o_callf (vs := #[(.pointer (some ⟨tb11, 0, none⟩)), (.int .i64 room)]) ca42 rfl (args2 rfl rfl) (pnew_c (t := (dm m, n)) (n := room) hH22.all1 ht21 hroom) ?_)
    rintro _ w28 ⟨b23, sg24, rfl, hd25, hX26⟩
    refine ⟨_, rfl, ?_⟩
    have hH27 : Has E w28 [sg24, R] := hX26.of_all1
    refine s_op (o_move (v := (.pointer (some ⟨db3, 0, none⟩))) rfl ?_)
    refine s_op (o_assign (v := (.pointer (some ⟨b23, 0, none⟩))) rfl ?_)
    refine s_op (o_assign (v := (.pointer (some ⟨db3, 0, none⟩))) rfl ?_)
    refine s_nil ?_
    refine t_norm (hK20 _ _ ?_)
    refine wp_ret ?_
    refine c_ret2 Tryz.results35  (v := (.pointer (some ⟨b23, 0, none⟩))) rfl (x := (.pointer (some ⟨db3, 0, none⟩))) rfl ?_
    exact ⟨_, _, _, rfl, hd25, hH27⟩
end Go.Q
namespace Go.Q
open Go.Proofs
set_option linter.unusedVariables false
set_option maxRecDepth 100000
attribute [local irreducible] wpList OK Code.wp
set_option maxHeartbeats 4000000 in
theorem awake13_c {E w : World} {R : List Hp} (hH : Has E w [R]) (hg : CellsAt R 1 0 nibV) :
    Calls Tryz.prog 34 #[] w fun e w' => e = .returned (.bool true) ∧ Has E w' [R] := by
  refine c_enter (args := []) Tryz.func34 rfl Tryz.ntmps34 (by simp) ?_
  refine wp_seq_k fun K1 hK1 => ?_
  refine c_region ?_
  refine s_op (o_assign (v := (.bool false)) rfl ?_)
  refine s_nil ?_
  refine t_norm (hK1 _ _ ?_)
  refine wp_seq_k fun K2 hK2 => ?_
  refine c_region ?_
  refine s_op (o_callf (vs := #[(.int .i64 3), (.int .i64 2)]) ca35 rfl (args2 rfl rfl) (begin13_c hH.all (n := 3) (room := 2) (m := 17) ⟨by decide, by decide⟩ rfl (by decide)) ?_)
  rintro _ w9 ⟨pl3, db4, sg5, rfl, hp6, hX7⟩
  refine ⟨_, rfl, ?_⟩
  have hH8 : Has E w9 [sg5, R] := hX7.of_all1
  obtain ⟨V0, hV0⟩ : ∃ V_, V_ = (⟨(dm 17, 3), 2, []⟩ : PolS) := ⟨_, rfl⟩
  have hp6_ : PolAt pl3 sg5 V0 := by rw [hV0]; exact hp6
  refine s_op (o_move (v := (.tuple #[(.pointer (some ⟨pl3, 0, none⟩)), (.pointer (some ⟨db4, 0, none⟩))])) rfl ?_)
  refine s_op (o_extract (v := (.pointer (some ⟨pl3, 0, none⟩))) rfl rfl ?_)
  refine s_op (o_extract (v := (.pointer (some ⟨db4, 0, none⟩))) rfl rfl ?_)
  refine s_op (o_assign (v := (.pointer (some ⟨pl3, 0, none⟩))) rfl ?_)
  refine s_op (o_assign (v := (.pointer (some ⟨db4, 0, none⟩))) rfl ?_)
  refine s_nil ?_
  refine t_norm (hK2 _ _ ?_)
  refine wp_seq_k fun K10 hK10 => ?_
  refine c_region ?_
  refine s_op (o_move (v := (.pointer (some ⟨pl3, 0, none⟩))) rfl ?_)
  have hpo_ : (PO V0.tw 1) = ((1, 0, []), 0) := by rw [hV0]; exact dm_po (by decide) (by decide) (by decide) (by decide)
  refine s_op (o_callf (vs := #[(.pointer (some ⟨pl3, 0, none⟩)), (.int .i64 1)]) ca36 rfl (args2 rfl rfl) (get_miss (v := V0) (no := 1) hH8.all1 hp6_ (hg.mono (seg_sub 0 rfl)) (by rw [hV0]; rfl) (by rw [hV0]; decide) (by rw [hV0]; exact (dm_ok (by decide) (by decide) (by decide))) ⟨by decide, by rw [hV0]; decide⟩ (by rw [hpo_]) (by rw [hpo_]; decide)) ?_)
  rintro _ w18 ⟨v11, s12, sg14, rfl, ho13, hd15, hX16⟩
  refine ⟨_, rfl, ?_⟩
  have hH17 : Has E w18 [s12, sg14, R] := hX16.of_all2
  obtain ⟨V1, hV1_⟩ : ∃ V_, V_ = (⟨V0.tw, V0.room, putB V0.fr 1 ⟨(PO V0.tw 1).1.1, (PO V0.tw 1).1.2.1, (PO V0.tw 1).1.2.2, false, 0, 0⟩⟩ : PolS) := ⟨_, rfl⟩
  have hd19 : PolAt pl3 sg14 V1 := by rw [hV1_]; exact hd15
  have hV1 : V1 = (⟨(dm 17, 3), 2, [(1, (⟨1, 0, [], false, 0, 0⟩ : Frm))]⟩ : PolS) := by rw [hV1_]; rw [hpo_, hV0]; rfl
  refine s_op (o_move (v := (.tuple #[(.agg #[(.int .i64 ((PO V0.tw 1).1.1)), (.int .i64 ((PO V0.tw 1).1.2.1)), v11]), (.int .i64 0)])) rfl ?_)
  refine s_op (o_extract (v := (.agg #[(.int .i64 ((PO V0.tw 1).1.1)), (.int .i64 ((PO V0.tw 1).1.2.1)), v11])) rfl rfl ?_)
  refine s_op (o_extract (v := (.int .i64 0)) rfl rfl ?_)
  refine s_op (o_alloc (cs := #[(.int .i64 0), (.int .i64 0), (.slice none 0 0)]) ti36 rfl hH17 fun b20 w21 hH22 => ?_)
  refine s_eff (o_storeN (vs := [(.int .i64 ((PO V0.tw 1).1.1)), (.int .i64 ((PO V0.tw 1).1.2.1)), v11]) (c' := #[(.int .i64 ((PO V0.tw 1).1.1)), (.int .i64 ((PO V0.tw 1).1.2.1)), v11]) ti36 rfl rfl rfl rfl (by intro u hu; simp only [List.mem_cons, List.not_mem_nil, or_false] at hu; rcases hu with rfl | rfl | rfl <;> first | rfl | exact ho13.one) (by simp) (by kernel_rfl) (hH22.front 0 rfl) fun w23 hH24 => ?_)
  refine s_op (o_assign (v := (.int .i64 0)) rfl ?_)
  refine s_nil ?_
  refine t_norm (hK10 _ _ ?_)
  refine wp_seq_k fun K25 hK25 => ?_
  refine c_region ?_
  refine s_op (o_fieldAddr (k := 1) (fun _ => by kernel_rfl) rfl ?_)
  refine s_eff (o_store1 (c' := #[(.int .i64 ((PO V0.tw 1).1.1)), (.int .i64 5), v11]) ti3 rfl rfl rfl (by simp) rfl (hH24.front 0 rfl) fun w26 hH27 => ?_)
  refine s_nil ?_
  refine t_norm (hK25 _ _ ?_)
  refine wp_seq_k fun K28 hK28 => ?_
  refine c_region ?_
  refine s_op (o_move (v := (.pointer (some ⟨pl3, 0, none⟩))) rfl ?_)
  refine s_op (o_loadN (cs := [(.int .i64 ((PO V0.tw 1).1.1)), (.int .i64 5), v11]) Tryz.underlying36 rfl ti36 rfl hH27 (seg_sub 0 rfl) (CellsAt.one rfl) ?_)
  refine s_op (o_callf (vs := #[(.pointer (some ⟨pl3, 0, none⟩)), (.agg #[(.int .i64 ((PO V0.tw 1).1.1)), (.int .i64 5), v11]), (.int .i64 5)]) ca37 rfl (args3 rfl rfl rfl) (change_ok (v := V1) (no := (PO V0.tw 1).1.1) (gsn := 5) (l := ((PO V0.tw 1).1.2.2)) (g := 5) (f := (⟨1, 0, [], false, 0, 0⟩ : Frm)) (hH27.front 2 rfl).all1 hd19 (ho13.sl.mono (seg_sub 1 rfl)) (by rw [hpo_, hV1]; rfl) (by rw [hpo_]; decide) (by decide) rfl (by rw [hpo_]; decide)) ?_)
  rintro _ w33 ⟨sg29, rfl, hd30, hX31⟩
  refine ⟨_, rfl, ?_⟩
  have hH32 : Has E w33 [sg29, [Hp.one b20 (.cells #[(.int .i64 ((PO V0.tw 1).1.1)), (.int .i64 5), v11] 36 (0, 0))], s12, R] := hX31.of_all1
  obtain ⟨V2, hV2_⟩ : ∃ V_, V_ = (⟨V1.tw, V1.room, putB V1.fr ((PO V0.tw 1).1.1) ⟨((PO V0.tw 1).1.1), 5, ((PO V0.tw 1).1.2.2), true, (if (⟨1, 0, [], false, 0, 0⟩ : Frm).dirty = true then (⟨1, 0, [], false, 0, 0⟩ : Frm).first else 5), (⟨1, 0, [], false, 0, 0⟩ : Frm).pins⟩⟩ : PolS) := ⟨_, rfl⟩
  have hd34 : PolAt pl3 sg29 V2 := by rw [hV2_]; exact hd30
  have hV2 : V2 = (⟨(dm 17, 3), 2, [(1, (⟨1, 5, [], true, 5, 0⟩ : Frm))]⟩ : PolS) := by rw [hV2_]; rw [hpo_, hV1]; rfl
  have hfr2_ : V2.fr = [(1, (⟨1, 5, [], true, 5, 0⟩ : Frm))] := congrArg PolS.fr hV2
  refine s_op (o_assign (v := (.int .i64 0)) rfl ?_)
  refine s_nil ?_
  refine t_norm (hK28 _ _ ?_)
  refine wp_seq_k fun K35 hK35 => ?_
  refine c_region ?_
  refine s_op (o_move (v := (.pointer (some ⟨pl3, 0, none⟩))) rfl ?_)
  refine s_op (o_callf (vs := #[(.pointer (some ⟨pl3, 0, none⟩)), (.int .i64 4), (.slice none 0 0)]) ca39 rfl (args3 rfl rfl rfl) (flush_busy (v := V2) (h := 4) (k := 1) (f := (⟨1, 5, [], true, 5, 0⟩ : Frm)) hH32.all1 hd34 (congrArg PolS.fr hV2) (by rw [hfr2_]; intro p hp; rw [List.mem_singleton.1 hp]; rfl) (by rw [hfr2_]; decide) rfl (by decide)) ?_)
  rintro _ w40 ⟨sg36, rfl, hd37, hX38⟩
  refine ⟨_, rfl, ?_⟩
  have hH39 : Has E w40 [sg36, [Hp.one b20 (.cells #[(.int .i64 ((PO V0.tw 1).1.1)), (.int .i64 5), v11] 36 (0, 0))], s12, R] := hX38.of_all1
  refine s_op (o_move (v := (.tuple #[(.int .i64 0), (.int .i64 10)])) rfl ?_)
  refine s_op (o_extract (v := (.int .i64 0)) rfl rfl ?_)
  refine s_op (o_extract (v := (.int .i64 10)) rfl rfl ?_)
  refine s_op (o_assign (v := (.int .i64 0)) rfl ?_)
  refine s_op (o_assign (v := (.int .i64 10)) rfl ?_)
  refine s_nil ?_
  refine t_norm (hK35 _ _ ?_)
  refine wp_seq_k fun K41 hK41 => ?_
  refine c_region ?_
  refine s_op (o_move (v := (.pointer (some ⟨pl3, 0, none⟩))) rfl ?_)
  refine s_op (o_callf (vs := #[(.pointer (some ⟨pl3, 0, none⟩)), (.int .i64 5), (.slice none 0 0)]) ca39 rfl (args3 rfl rfl rfl) (flush_ok (v := V2) (h := 5) (k := 1) (f := (⟨1, 5, [], true, 5, 0⟩ : Frm)) (kk := 18) hH39.all1 hd37 (hg.mono (seg_sub 2 rfl)) (congrArg PolS.fr hV2) (by rw [hfr2_]; intro p hp; rw [List.mem_singleton.1 hp]; rfl) (by rw [hfr2_]; decide) rfl (by decide) (by rw [hV2]; exact ((dm_ts (n := 3) (m := 17) (by decide) (by decide)).ok (a := pgF (⟨1, 5, [], true, 5, 0⟩ : Frm)) (by decide) (by decide +kernel) (by decide)).2.1) (by rw [hV2]; exact (dm_ok (by decide) (by decide) (by decide))) (by rw [hV2]; exact few_fm 17) (by decide)) ?_)
  rintro _ w46 ⟨sg42, rfl, hd43, hX44⟩
  refine ⟨_, rfl, ?_⟩
  have hH45 : Has E w46 [sg42, [Hp.one b20 (.cells #[(.int .i64 ((PO V0.tw 1).1.1)), (.int .i64 5), v11] 36 (0, 0))], s12, R] := hX44.of_all1
  refine s_op (o_move (v := (.tuple #[(.int .i64 1), (.int .i64 0)])) rfl ?_)
  refine s_op (o_extract (v := (.int .i64 1)) rfl rfl ?_)
  refine s_op (o_extract (v := (.int .i64 0)) rfl rfl ?_)
  refine s_op (o_assign (v := (.int .i64 1)) rfl ?_)
  refine s_op (o_assign (v := (.int .i64 0)) rfl ?_)
  refine s_nil ?_
  refine t_norm (hK41 _ _ ?_)
  refine wp_seq_k fun K47 hK47 => ?_
  refine c_region ?_
  refine s_op (o_move (v := (.pointer (some ⟨pl3, 0, none⟩))) rfl ?_)
  refine s_op (o_pnnil (p := some _) Tryz.underlying65 rfl rfl ?_)
  refine s_op (o_move (v := (.bool true)) rfl ?_)
  refine s_on 35 rfl rfl (o_move (v := (.int .i64 0)) rfl ?_)
  refine s_on 35 rfl rfl (o_eql (a := 0) (b := 0) rfl rfl ?_)
  refine s_op (o_pick_t (u := (.bool (decide ((0 : Int) = (0 : Int))))) rfl rfl ?_)
  refine s_op (o_move (v := (.bool (decide ((0 : Int) = (0 : Int))))) rfl ?_)
  by_cases h48 : (0 : Int) = (0 : Int)
  · -- (0 : Int) = (0 : Int)
    refine s_on 39 rfl (congrArg Value.bool (decide_eq_true h48)) (o_move (v := (.int .i64 0)) rfl ?_)
    refine s_on 39 rfl (congrArg Value.bool (decide_eq_true h48)) (o_eql (a := 0) (b := 0) rfl rfl ?_)
    refine s_op (o_pick_t (u := (.bool (decide ((0 : Int) = (0 : Int))))) ((rfl : _ = _).trans (congrArg Value.bool (decide_eq_true h48))) rfl ?_)
    refine s_op (o_move (v := (.bool (decide ((0 : Int) = (0 : Int))))) rfl ?_)
    refine s_on 43 rfl (congrArg Value.bool (decide_eq_true h48)) (o_move (v := (.int .i64 10)) rfl ?_)
    refine s_on 43 rfl (congrArg Value.bool (decide_eq_true h48)) (o_eql (a := 10) (b := 10) rfl rfl ?_)
    refine s_op (o_pick_t (u := (.bool (decide ((10 : Int) = (10 : Int))))) ((rfl : _ = _).trans (congrArg Value.bool (decide_eq_true h48))) rfl ?_)
    refine s_op (o_move (v := (.bool (decide ((10 : Int) = (10 : Int))))) rfl ?_)
    by_cases h49 : (10 : Int) = (10 : Int)
    · -- (10 : Int) = (10 : Int)
      refine s_on 47 rfl (congrArg Value.bool (decide_eq_true h49)) (o_move (v := (.int .i64 1)) rfl ?_)
      refine s_on 47 rfl (congrArg Value.bool (decide_eq_true h49)) (o_eql (a := 1) (b := 1) rfl rfl ?_)
      refine s_op (o_pick_t (u := (.bool (decide ((1 : Int) = (1 : Int))))) ((rfl : _ = _).trans (congrArg Value.bool (decide_eq_true h49))) rfl ?_)
      refine s_op (o_move (v := (.bool (decide ((1 : Int) = (1 : Int))))) rfl ?_)
      by_cases h50 : (1 : Int) = (1 : Int)
      · -- (1 : Int) = (1 : Int)
        refine s_on 51 rfl (congrArg Value.bool (decide_eq_true h50)) (o_move (v := (.int .i64 0)) rfl ?_)
        refine s_on 51 rfl (congrArg Value.bool (decide_eq_true h50)) (o_eql (a := 0) (b := 0) rfl rfl ?_)
        refine s_op (o_pick_t (u := (.bool (decide ((0 : Int) = (0 : Int))))) ((rfl : _ = _).trans (congrArg Value.bool (decide_eq_true h50))) rfl ?_)
        refine s_op (o_assign (v := (.bool (decide ((0 : Int) = (0 : Int))))) rfl ?_)
        refine s_nil ?_
        refine t_norm (hK47 _ _ ?_)
        refine wp_ret ?_
        refine c_ret1 Tryz.results34  (v := (.bool (decide ((0 : Int) = (0 : Int))))) rfl ?_
        have hH51 : Has E w46 [R] := (hH45.front 3 rfl).first 1 rfl
        exact ⟨by first | rfl | (rw [decide_eq_true (by decide)]), hH51⟩
      · -- not: (1 : Int) = (1 : Int)
        exact absurd h50 (by decide)
    · -- not: (10 : Int) = (10 : Int)
      exact absurd h49 (by decide)
  · -- not: (0 : Int) = (0 : Int)
    exact absurd h48 (by decide)
end Go.Q
namespace Go.Q
theorem set_own {key : Bs} {v : Bool × Bs} (h : setE 1 0 [] key v 3 = 0) : setNo 1 0 [] key v 3 = 1 ∧ setG 1 0 [] key v 3 = 3 ∧ setL 1 0 [] key v 3 = [(key, v.2)] ∧ pageR 1 3 [(key, v.2)] = true := by
  obtain ⟨h1, _, h3, _⟩ := set_right h
  have hh : hasC [] key = false := rfl
  have hv : v.1 = true := h3.resolve_right (by rw [hh]; decide)
  have e : setC [] key v = [(key, v.2)] := by
    unfold setC
    rw [if_pos hv, if_neg (by rw [hh]; decide)]
    rfl
  rw [e] at h1
  exact ⟨if_pos h, if_pos h, by unfold setL; rw [if_pos h, e], h1⟩
end Go.Q
namespace Go.Q
open Go.Proofs
set_option linter.unusedVariables false
set_option maxRecDepth 100000
attribute [local irreducible] wpList OK Code.wp
set_option maxHeartbeats 4000000 in
theorem PoolOwn_c {E w : World} {R : List Hp} (hH : Has E w [R]) (hg : CellsAt R 1 0 nibV) {key : Bs} {v : Bool × Bs} :
    Calls Tryz.prog 7 #[(S key), (.agg #[(.bool v.1), (S v.2)])] w fun e w' => e = .returned (.bool true) ∧ Has E w' [R] := by
  refine c_enter (args := [(S key), (.agg #[(.bool v.1), (S v.2)])]) Tryz.func7 rfl Tryz.ntmps7 (by simp) ?_
  refine wp_seq_k fun K1 hK1 => ?_
  refine c_region ?_
  refine s_op (o_box (cs := #[(.bool v.1), (S v.2)]) rfl rfl hH fun b2 w3 hH4 => ?_)
  refine s_op (o_assign (v := (.bool false)) rfl ?_)
  refine s_nil ?_
  refine t_norm (hK1 _ _ ?_)
  refine wp_seq_k fun K5 hK5 => ?_
  refine c_region ?_
  refine s_op (o_sight (v := (.agg #[(.int .i64 1), (.int .i64 0), (.slice none 0 0)])) (fun _ => by kernel_rfl) ?_)
  refine s_op (o_move (v := (S key)) rfl ?_)
  refine s_op (o_loadN (cs := [(.bool v.1), (S v.2)]) Tryz.underlying62 rfl ti62 rfl hH4 (seg_sub 0 rfl) (CellsAt.one rfl) ?_)
  refine s_op (o_callf (vs := #[(.agg #[(.int .i64 1), (.int .i64 0), (.slice none 0 0)]), (S key), (.agg #[(.bool v.1), (S v.2)]), (.int .i64 3)]) ca33 rfl (args4 rfl rfl rfl rfl) (r11set_c (no := 1) (gsn := 0) (l := ([] : List Cel)) (key := key) (v := (v.1, v.2)) (g := 3) hH4.all (sl_nil 2) (by first | omega | (simp only []; omega) | (simp; done) | (simp; omega))) ?_)
  rintro _ w11 ⟨v6, s7, rfl, ho8, hX9⟩
  refine ⟨_, rfl, ?_⟩
  have hH10 : Has E w11 [s7, [Hp.one b2 (.cells #[(.bool v.1), (S v.2)] 62 (0, 0))], R] := hX9.of_all1
  refine s_op (o_move (v := (.tuple #[(.agg #[(.int .i64 (setNo 1 0 ([] : List Cel) key (v.1, v.2) 3)), (.int .i64 (setG 1 0 ([] : List Cel) key (v.1, v.2) 3)), v6]), (.int .i64 (setE 1 0 ([] : List Cel) key (v.1, v.2) 3))])) rfl ?_)
  refine s_op (o_extract (v := (.agg #[(.int .i64 (setNo 1 0 ([] : List Cel) key (v.1, v.2) 3)), (.int .i64 (setG 1 0 ([] : List Cel) key (v.1, v.2) 3)), v6])) rfl rfl ?_)
  refine s_op (o_extract (v := (.int .i64 (setE 1 0 ([] : List Cel) key (v.1, v.2) 3))) rfl rfl ?_)
  refine s_op (o_alloc (cs := #[(.int .i64 0), (.int .i64 0), (.slice none 0 0)]) ti36 rfl hH10 fun b12 w13 hH14 => ?_)
  refine s_eff (o_storeN (vs := [(.int .i64 (setNo 1 0 ([] : List Cel) key (v.1, v.2) 3)), (.int .i64 (setG 1 0 ([] : List Cel) key (v.1, v.2) 3)), v6]) (c' := #[(.int .i64 (setNo 1 0 ([] : List Cel) key (v.1, v.2) 3)), (.int .i64 (setG 1 0 ([] : List Cel) key (v.1, v.2) 3)), v6]) ti36 rfl rfl rfl rfl (by intro u hu; simp only [List.mem_cons, List.not_mem_nil, or_false] at hu; rcases hu with rfl | rfl | rfl <;> first | rfl | exact ho8.one) (by simp) (by kernel_rfl) (hH14.front 0 rfl) fun w15 hH16 => ?_)
  refine s_op (o_assign (v := (.int .i64 (setE 1 0 ([] : List Cel) key (v.1, v.2) 3))) rfl ?_)
  refine s_nil ?_
  refine t_norm (hK5 _ _ ?_)
  refine wp_seq_k fun K17 hK17 => ?_
  refine wp_seq_k fun K18 hK18 => ?_
  refine c_region ?_
  refine s_op (o_move (v := (.int .i64 (setE 1 0 ([] : List Cel) key (v.1, v.2) 3))) rfl ?_)
  refine s_op (o_neq (a := (setE 1 0 ([] : List Cel) key (v.1, v.2) 3)) (b := 0) rfl rfl ?_)
  refine s_op (o_move (v := (.bool (decide ((setE 1 0 ([] : List Cel) key (v.1, v.2) 3) ≠ 0)))) rfl ?_)
  by_cases h19 : (setE 1 0 ([] : List Cel) key (v.1, v.2) 3) ≠ 0
  · -- (setE 1 0 ([] : List Cel) key (v.1, v.2) 3) ≠ 0
    refine s_off (b' := true) 22 rfl (congrArg Value.bool (decide_eq_true h19)) rfl ?_
    refine s_off (b' := true) 22 rfl (congrArg Value.bool (decide_eq_true h19)) rfl ?_
    refine s_op (o_pick_t (u := (.bool true)) ((rfl : _ = _).trans (congrArg Value.bool (decide_eq_true h19))) rfl ?_)
    refine s_nil ?_
    refine t_norm (hK18 _ _ ?_)
    refine c_true rfl rfl ?_
    refine wp_seq_k fun K20 hK20 => ?_
    refine c_region ?_
    refine s_op (o_callf (vs := #[]) ca34 rfl (args0) (awake13_c hH16.all (hg.mono (seg_sub 3 rfl))) ?_)
    rintro _ w23 ⟨rfl, hX21⟩
    refine ⟨_, rfl, ?_⟩
    have hH22 := hX21.of_all
    refine s_op (o_assign (v := (.bool true)) rfl ?_)
    refine s_nil ?_
    refine t_norm (hK20 _ _ ?_)
    refine wp_ret ?_
    refine t_ret (c_ret1 Tryz.results7  (v := (.bool true)) rfl ?_)
    have hH24 : Has E w23 [R] := (hH22.front 3 rfl).first 1 rfl
    exact ⟨by first | rfl | (rw [decide_eq_true rfl]) | (rw [decide_eq_true (by decide)]), hH24⟩
  · -- not: (setE 1 0 ([] : List Cel) key (v.1, v.2) 3) ≠ 0
    have hst_ := set_own (Classical.not_not.1 h19)
    have hsl_ : (setL 1 0 ([] : List Cel) key (v.1, v.2) 3).length = 1 := by rw [hst_.2.2.1]; rfl
    refine s_on 22 rfl (congrArg Value.bool (decide_eq_false h19)) (o_callf (vs := #[]) ca34 rfl (args0) (awake13_c hH16.all (hg.mono (seg_sub 3 rfl))) ?_)
    rintro _ w27 ⟨rfl, hX25⟩
    refine ⟨_, rfl, ?_⟩
    have hH26 := hX25.of_all
    refine s_on 22 rfl (congrArg Value.bool (decide_eq_false h19)) (o_not rfl ?_)
    refine s_op (o_pick_f (u := (.bool false)) ((rfl : _ = _).trans (congrArg Value.bool (decide_eq_false h19))) rfl ?_)
    refine s_nil ?_
    refine t_norm (hK18 _ _ ?_)
    refine c_false rfl rfl ?_
    refine wp_skip ?_
    refine t_norm (hK17 _ _ ?_)
    refine wp_seq_k fun K28 hK28 => ?_
    refine c_region ?_
    refine s_op (o_callf (vs := #[(.int .i64 2), (.int .i64 2)]) ca35 rfl (args2 rfl rfl) (begin13_c hH26.all (n := 2) (room := 2) (m := 13) ⟨by decide, by decide⟩ rfl (by decide)) ?_)
    rintro _ w35 ⟨pl29, db30, sg31, rfl, hp32, hX33⟩
    refine ⟨_, rfl, ?_⟩
    have hH34 : Has E w35 [sg31, [Hp.one b12 (.cells #[(.int .i64 (setNo 1 0 ([] : List Cel) key (v.1, v.2) 3)), (.int .i64 (setG 1 0 ([] : List Cel) key (v.1, v.2) 3)), v6] 36 (0, 0))], s7, [Hp.one b2 (.cells #[(.bool v.1), (S v.2)] 62 (0, 0))], R] := hX33.of_all1
    obtain ⟨V0, hV0⟩ : ∃ V_, V_ = (⟨(dm 13, 2), 2, []⟩ : PolS) := ⟨_, rfl⟩
    have hp32_ : PolAt pl29 sg31 V0 := by rw [hV0]; exact hp32
    refine s_op (o_move (v := (.tuple #[(.pointer (some ⟨pl29, 0, none⟩)), (.pointer (some ⟨db30, 0, none⟩))])) rfl ?_)
    refine s_op (o_extract (v := (.pointer (some ⟨pl29, 0, none⟩))) rfl rfl ?_)
    refine s_op (o_extract (v := (.pointer (some ⟨db30, 0, none⟩))) rfl rfl ?_)
    refine s_op (o_assign (v := (.pointer (some ⟨pl29, 0, none⟩))) rfl ?_)
    refine s_op (o_assign (v := (.pointer (some ⟨db30, 0, none⟩))) rfl ?_)
    refine s_nil ?_
    refine t_norm (hK28 _ _ ?_)
    refine wp_seq_k fun K36 hK36 => ?_
    refine c_region ?_
    refine s_op (o_move (v := (.pointer (some ⟨pl29, 0, none⟩))) rfl ?_)
    have hpo_ : (PO V0.tw 1) = ((1, 0, []), 0) := by rw [hV0]; exact dm_po (by decide) (by decide) (by decide) (by decide)
    refine s_op (o_callf (vs := #[(.pointer (some ⟨pl29, 0, none⟩)), (.int .i64 1)]) ca36 rfl (args2 rfl rfl) (get_miss (v := V0) (no := 1) hH34.all1 hp32_ (hg.mono (seg_sub 3 rfl)) (by rw [hV0]; rfl) (by rw [hV0]; decide) (by rw [hV0]; exact (dm_ok (by decide) (by decide) (by decide))) ⟨by decide, by rw [hV0]; decide⟩ (by rw [hpo_]) (by rw [hpo_]; decide)) ?_)
    rintro _ w44 ⟨v37, s38, sg40, rfl, ho39, hd41, hX42⟩
    refine ⟨_, rfl, ?_⟩
    have hH43 : Has E w44 [s38, sg40, [Hp.one b12 (.cells #[(.int .i64 (setNo 1 0 ([] : List Cel) key (v.1, v.2) 3)), (.int .i64 (setG 1 0 ([] : List Cel) key (v.1, v.2) 3)), v6] 36 (0, 0))], s7, [Hp.one b2 (.cells #[(.bool v.1), (S v.2)] 62 (0, 0))], R] := hX42.of_all2
    obtain ⟨V1, hV1_⟩ : ∃ V_, V_ = (⟨V0.tw, V0.room, putB V0.fr 1 ⟨(PO V0.tw 1).1.1, (PO V0.tw 1).1.2.1, (PO V0.tw 1).1.2.2, false, 0, 0⟩⟩ : PolS) := ⟨_, rfl⟩
    have hd45 : PolAt pl29 sg40 V1 := by rw [hV1_]; exact hd41
    have hV1 : V1 = (⟨(dm 13, 2), 2, [(1, (⟨1, 0, [], false, 0, 0⟩ : Frm))]⟩ : PolS) := by rw [hV1_]; rw [hpo_, hV0]; rfl
    refine s_nil ?_
    refine t_norm (hK36 _ _ ?_)
    refine wp_seq_k fun K46 hK46 => ?_
    refine wp_seq_k fun K47 hK47 => ?_
    refine c_region ?_
    refine s_op (o_move (v := (.pointer (some ⟨pl29, 0, none⟩))) rfl ?_)
    refine s_op (o_loadN (cs := [(.int .i64 (setNo 1 0 ([] : List Cel) key (v.1, v.2) 3)), (.int .i64 (setG 1 0 ([] : List Cel) key (v.1, v.2) 3)), v6]) Tryz.underlying36 rfl ti36 rfl hH43 (seg_sub 2 rfl) (CellsAt.one rfl) ?_)
    refine s_op (o_callf (vs := #[(.pointer (some ⟨pl29, 0, none⟩)), (.agg #[(.int .i64 (setNo 1 0 ([] : List Cel) key (v.1, v.2) 3)), (.int .i64 (setG 1 0 ([] : List Cel) key (v.1, v.2) 3)), v6]), (.int .i64 3)]) ca37 rfl (args3 rfl rfl rfl) (change_ok (v := V1) (no := (setNo 1 0 ([] : List Cel) key (v.1, v.2) 3)) (gsn := (setG 1 0 ([] : List Cel) key (v.1, v.2) 3)) (l := (setL 1 0 ([] : List Cel) key (v.1, v.2) 3)) (g := 3) (f := (⟨1, 0, [], false, 0, 0⟩ : Frm)) (hH43.front 1 rfl).all1 hd45 (ho8.sl.mono (seg_sub 2 rfl)) (by rw [hst_.1, hV1]; rfl) (by rw [hst_.1, hst_.2.1, hst_.2.2.1]; exact hst_.2.2.2) (by rw [hst_.2.1]; decide) hst_.2.1.symm (by rw [hst_.2.2.1]; exact (show 1 ≤ 1000000 by decide))) ?_)
    rintro _ w52 ⟨sg48, rfl, hd49, hX50⟩
    refine ⟨_, rfl, ?_⟩
    have hH51 : Has E w52 [sg48, s38, [Hp.one b12 (.cells #[(.int .i64 (setNo 1 0 ([] : List Cel) key (v.1, v.2) 3)), (.int .i64 (setG 1 0 ([] : List Cel) key (v.1, v.2) 3)), v6] 36 (0, 0))], s7, [Hp.one b2 (.cells #[(.bool v.1), (S v.2)] 62 (0, 0))], R] := hX50.of_all1
    obtain ⟨V2, hV2_⟩ : ∃ V_, V_ = (⟨V1.tw, V1.room, putB V1.fr (setNo 1 0 ([] : List Cel) key (v.1, v.2) 3) ⟨(setNo 1 0 ([] : List Cel) key (v.1, v.2) 3), (setG 1 0 ([] : List Cel) key (v.1, v.2) 3), (setL 1 0 ([] : List Cel) key (v.1, v.2) 3), true, (if (⟨1, 0, [], false, 0, 0⟩ : Frm).dirty = true then (⟨1, 0, [], false, 0, 0⟩ : Frm).first else 3), (⟨1, 0, [], false, 0, 0⟩ : Frm).pins⟩⟩ : PolS) := ⟨_, rfl⟩
    have hd53 : PolAt pl29 sg48 V2 := by rw [hV2_]; exact hd49
    have hV2 : V2 = (⟨(dm 13, 2), 2, [(1, (⟨1, 3, [(key, v.2)], true, 3, 0⟩ : Frm))]⟩ : PolS) := by rw [hV2_]; rw [hst_.1, hst_.2.1, hst_.2.2.1, hV1]; rfl
    refine s_op (o_neq (a := 0) (b := 0) rfl rfl ?_)
    refine s_op (o_move (v := (.bool false)) rfl ?_)
    refine s_on 37 rfl rfl (o_fieldAddr (k := 2) (fun _ => by kernel_rfl) rfl ?_)
    refine s_on 37 rfl rfl (o_load1 (v := v6) Tryz.underlying34 rfl rfl hH51 (seg_sub 2 rfl) (CellsAt.one rfl) ?_)
    refine s_on 37 rfl rfl (o_lenS Tryz.underlying34 rfl ho8.sl ?_)
    refine s_on 37 rfl rfl (o_neq (a := (((setL 1 0 ([] : List Cel) key (v.1, v.2) 3).length : Nat) : Int)) (b := 1) rfl rfl ?_)
    refine s_op (o_pick_f (u := (.bool (decide ((((setL 1 0 ([] : List Cel) key (v.1, v.2) 3).length : Nat) : Int) ≠ 1)))) rfl rfl ?_)
    refine s_nil ?_
    refine t_norm (hK47 _ _ ?_)
    refine c_cond rfl (fun h54 => ?_) (fun h54 => ?_)
    · -- (((setL 1 0 ([] : List Cel) key (v.1, v.2) 3).length : Nat) : Int) ≠ 1
      exfalso; omega
    · -- not: (((setL 1 0 ([] : List Cel) key (v.1, v.2) 3).length : Nat) : Int) ≠ 1
      refine wp_skip ?_
      refine t_norm (hK46 _ _ ?_)
      refine wp_seq_k fun K55 hK55 => ?_
      refine c_region ?_
      refine s_op (o_fieldAddr (k := 2) (fun _ => by kernel_rfl) rfl ?_)
      refine s_op (o_load1 (v := v6) Tryz.underlying34 rfl rfl hH51 (seg_sub 2 rfl) (CellsAt.one rfl) ?_)
      refine s_op (o_ownAddrF Tryz.underlying34 ti70 rfl ho8 rfl (by omega) (by first | omega | (simp only [List.length_append, List.length_cons, List.length_nil, List.length_set]; omega)) fun b56 ho57 => ?_)
      refine s_op (o_fieldAddr (k := ((0 : Int)).toNat * 2 + 1) (fun _ => by kernel_rfl) rfl ?_)
      refine s_eff (o_ownStoreC (f := ceC) (l := (setL 1 0 ([] : List Cel) key (v.1, v.2) 3)) (a := ((key, v.2) : Cel)) (a' := ((((key, v.2) : Cel).1, [111, 116, 104, 101, 114]) : Cel)) (i := ((0 : Int)).toNat) (k := 1) ceC_len ti9 rfl rfl rfl (by decide) (show (setL 1 0 ([] : List Cel) key (v.1, v.2) 3)[0]? = some _ by rw [hst_.2.2.1]; rfl) rfl ho57 (by first | rfl | (simp only [List.length_append, List.length_cons, List.length_nil, List.length_set]; done) | simp) (hH51.front 3 rfl) fun s58 w59 ho60 hH61 => ?_)
      refine s_nil ?_
      refine t_norm (hK55 _ _ ?_)
      refine wp_seq_k fun K62 hK62 => ?_
      refine c_region ?_
      refine s_op (o_move (v := (.pointer (some ⟨pl29, 0, none⟩))) rfl ?_)
      refine s_op (o_callf (vs := #[(.pointer (some ⟨pl29, 0, none⟩)), (.int .i64 1)]) ca36 rfl (args2 rfl rfl) (get_hit (v := V2) (no := 1) (f := (⟨1, 3, [(key, v.2)], true, 3, 0⟩ : Frm)) (hH61.front 1 rfl).all1 hd53 (by rw [hV2]; rfl) (show 1 ≤ 1000000 by decide)) ?_)
      rintro _ w70 ⟨v63, s64, sg66, rfl, ho65, hd67, hX68⟩
      refine ⟨_, rfl, ?_⟩
      have hH69 : Has E w70 [s64, sg66, s58, s38, [Hp.one b12 (.cells #[(.int .i64 (setNo 1 0 ([] : List Cel) key (v.1, v.2) 3)), (.int .i64 (setG 1 0 ([] : List Cel) key (v.1, v.2) 3)), v6] 36 (0, 0))], [Hp.one b2 (.cells #[(.bool v.1), (S v.2)] 62 (0, 0))], R] := hX68.of_all2
      have ho71 : Own 70 2 v63 [((key, v.2) : Cel)].length ([((key, v.2) : Cel)].flatMap ceC) s64 := ho65
      refine s_op (o_move (v := (.tuple #[(.agg #[(.int .i64 ((⟨1, 3, [(key, v.2)], true, 3, 0⟩ : Frm).no)), (.int .i64 ((⟨1, 3, [(key, v.2)], true, 3, 0⟩ : Frm).gsn)), v63]), (.int .i64 0)])) rfl ?_)
      refine s_op (o_extract (v := (.agg #[(.int .i64 ((⟨1, 3, [(key, v.2)], true, 3, 0⟩ : Frm).no)), (.int .i64 ((⟨1, 3, [(key, v.2)], true, 3, 0⟩ : Frm).gsn)), v63])) rfl rfl ?_)
      refine s_op (o_extract (v := (.int .i64 0)) rfl rfl ?_)
      refine s_op (o_alloc (cs := #[(.int .i64 0), (.int .i64 0), (.slice none 0 0)]) ti36 rfl hH69 fun b72 w73 hH74 => ?_)
      refine s_eff (o_storeN (vs := [(.int .i64 ((⟨1, 3, [(key, v.2)], true, 3, 0⟩ : Frm).no)), (.int .i64 ((⟨1, 3, [(key, v.2)], true, 3, 0⟩ : Frm).gsn)), v63]) (c' := #[(.int .i64 ((⟨1, 3, [(key, v.2)], true, 3, 0⟩ : Frm).no)), (.int .i64 ((⟨1, 3, [(key, v.2)], true, 3, 0⟩ : Frm).gsn)), v63]) ti36 rfl rfl rfl rfl (by intro u hu; simp only [List.mem_cons, List.not_mem_nil, or_false] at hu; rcases hu with rfl | rfl | rfl <;> first | rfl | exact ho71.one) (by simp) (by kernel_rfl) (hH74.front 0 rfl) fun w75 hH76 => ?_)
      refine s_op (o_assign (v := (.int .i64 0)) rfl ?_)
      refine s_nil ?_
      refine t_norm (hK62 _ _ ?_)
      refine wp_seq_k fun K77 hK77 => ?_
      refine wp_seq_k fun K78 hK78 => ?_
      refine Rest.region mixed (by kernel_rfl) ?_
      have hH79 : Has E { w75 with drawn := w75.drawn + 1 } [[Hp.one b72 (.cells #[(.int .i64 ((⟨1, 3, [(key, v.2)], true, 3, 0⟩ : Frm).no)), (.int .i64 ((⟨1, 3, [(key, v.2)], true, 3, 0⟩ : Frm).gsn)), v63] 36 (0, 0))], s64, sg66, s58, s38, [Hp.one b12 (.cells #[(.int .i64 (setNo 1 0 ([] : List Cel) key (v.1, v.2) 3)), (.int .i64 (setG 1 0 ([] : List Cel) key (v.1, v.2) 3)), v6] 36 (0, 0))], [Hp.one b2 (.cells #[(.bool v.1), (S v.2)] 62 (0, 0))], R] := Has0.drew hH76 _
      refine r_op 0 rfl (by kernel_rfl) (o_move (v := (.int .i64 0)) rfl ?_)
      refine r_op 1 rfl (by kernel_rfl) (o_neq (a := 0) (b := 0) rfl rfl ?_)
      refine r_op 2 rfl (by kernel_rfl) (o_move (v := (.bool false)) rfl ?_)
      refine r_on 3 rfl (by kernel_rfl) 54 rfl rfl (o_fieldAddr (k := 2) (fun _ => by kernel_rfl) rfl ?_)
      refine r_on 4 rfl (by kernel_rfl) 54 rfl rfl (o_load1 (v := v63) Tryz.underlying34 rfl rfl hH79 (seg_sub 0 rfl) (CellsAt.one rfl) ?_)
      refine r_on 5 rfl (by kernel_rfl) 54 rfl rfl (o_lenS Tryz.underlying34 rfl ho71.sl ?_)
      refine r_on 6 rfl (by kernel_rfl) 54 rfl rfl (o_neq (a := 1) (b := 1) rfl rfl ?_)
      refine r_op 7 rfl (by kernel_rfl) (o_pick_f (u := (.bool false)) rfl rfl ?_)
      refine r_op 8 rfl (by kernel_rfl) (o_move (v := (.bool false)) rfl ?_)
      refine Rest.phaseA (fun w_ => Has E w_ [[Hp.one b72 (.cells #[(.int .i64 ((⟨1, 3, [(key, v.2)], true, 3, 0⟩ : Frm).no)), (.int .i64 ((⟨1, 3, [(key, v.2)], true, 3, 0⟩ : Frm).gsn)), v63] 36 (0, 0))], s64, [Hp.one b2 (.cells #[(.bool v.1), (S v.2)] 62 (0, 0))]]) 9 16 7 rfl (by decide) (by kernel_rfl) ?_
      refine a_on 9 rfl (by kernel_rfl) 60 rfl rfl (fun w_ h_ => o_fieldAddr (k := 2) (fun _ => by kernel_rfl) rfl ⟨rfl, rfl⟩) ?_
      refine a_on 10 rfl (by kernel_rfl) 60 rfl rfl (fun w_ h_ => o_load1 (v := v63) Tryz.underlying34 rfl rfl h_ (seg_sub 0 rfl) (CellsAt.one rfl) ⟨rfl, rfl⟩) ?_
      obtain ⟨b80, o81, hc82, ho83⟩ := ix_exF ceC_len Tryz.underlying34 ti70 ho71.sl (by omega) (show [((key, v.2) : Cel)][((0 : Int)).toNat]? = some ((key, v.2) : Cel) from rfl)
      refine a_on 11 rfl (by kernel_rfl) 60 rfl rfl (fun w_ h_ => ho83 rfl rfl ⟨rfl, rfl⟩) ?_
      refine a_on 12 rfl (by kernel_rfl) 60 rfl rfl (fun w_ h_ => o_fieldAddr (k := o81 + 1) (fun _ => by kernel_rfl) rfl ⟨rfl, rfl⟩) ?_
      refine a_on 13 rfl (by kernel_rfl) 60 rfl rfl (fun w_ h_ => o_load1 (v := (S (((key, v.2) : Cel).2))) Tryz.underlying9 rfl rfl h_ (seg_sub 1 rfl) (CellsAt.field (k := 1) (ds := [(S (((key, v.2) : Cel).2))]) hc82 rfl) ⟨rfl, rfl⟩) ?_
      refine a_on 14 rfl (by kernel_rfl) 60 rfl rfl (fun w_ h_ => o_fieldAddr (k := 1) (fun _ => by kernel_rfl) rfl ⟨rfl, rfl⟩) ?_
      refine a_on 15 rfl (by kernel_rfl) 60 rfl rfl (fun w_ h_ => o_load1 (v := (S v.2)) Tryz.underlying9 rfl rfl h_ (seg_sub 2 rfl) (CellsAt.one rfl) ⟨rfl, rfl⟩) ?_
      have hH84 : Has E { w75 with drawn := w75.drawn + 1 } [[Hp.one b72 (.cells #[(.int .i64 ((⟨1, 3, [(key, v.2)], true, 3, 0⟩ : Frm).no)), (.int .i64 ((⟨1, 3, [(key, v.2)], true, 3, 0⟩ : Frm).gsn)), v63] 36 (0, 0))], s64, [Hp.one b2 (.cells #[(.bool v.1), (S v.2)] 62 (0, 0))]] := (((hH79.front 6 rfl).front 2 rfl).front 2 rfl).first 3 rfl
      refine a_done (by kernel_rfl) hH84 ?_
      refine r_on 16 rfl (by kernel_rfl) 60 rfl rfl (o_sneq (a := ((key, v.2) : Cel).2) (b := v.2) rfl rfl ?_)
      refine r_op 17 rfl (by kernel_rfl) (o_pick_f (u := (.bool (decide (((key, v.2) : Cel).2 ≠ v.2)))) rfl rfl ?_)
      refine Rest.done (by kernel_rfl) ?_
      refine t_norm (hK78 _ _ ?_)
      refine c_cond rfl (fun h85 => ?_) (fun h85 => ?_)
      · -- ((key, v.2) : Cel).2 ≠ v.2
        exact absurd rfl h85
      · -- not: ((key, v.2) : Cel).2 ≠ v.2
        refine wp_skip ?_
        refine t_norm (hK77 _ _ ?_)
        refine wp_seq_k fun K86 hK86 => ?_
        refine c_region ?_
        refine s_op (o_fieldAddr (k := 2) (fun _ => by kernel_rfl) rfl ?_)
        refine s_op (o_load1 (v := v63) Tryz.underlying34 rfl rfl hH79 (seg_sub 0 rfl) (CellsAt.one rfl) ?_)
        refine s_op (o_ownAddrF Tryz.underlying34 ti70 rfl ho71 rfl (by omega) (by first | omega | (simp only [List.length_append, List.length_cons, List.length_nil, List.length_set]; omega)) fun b87 ho88 => ?_)
        refine s_op (o_fieldAddr (k := ((0 : Int)).toNat * 2 + 0) (fun _ => by kernel_rfl) rfl ?_)
        refine s_eff (o_ownStoreC (f := ceC) (l := [((key, v.2) : Cel)]) (a := ((key, v.2) : Cel)) (a' := (([122, 122], ((key, v.2) : Cel).2) : Cel)) (i := ((0 : Int)).toNat) (k := 0) ceC_len ti9 rfl rfl rfl (by decide) (show ([((key, v.2) : Cel)] : List Cel)[0]? = some _ from rfl) rfl ho88 (by first | rfl | (simp only [List.length_append, List.length_cons, List.length_nil, List.length_set]; done) | simp) (hH79.front 1 rfl) fun s89 w90 ho91 hH92 => ?_)
        refine s_nil ?_
        refine t_norm (hK86 _ _ ?_)
        refine wp_seq_k fun K93 hK93 => ?_
        refine c_region ?_
        refine s_op (o_move (v := (.pointer (some ⟨pl29, 0, none⟩))) rfl ?_)
        refine s_op (o_callf (vs := #[(.pointer (some ⟨pl29, 0, none⟩)), (.int .i64 1)]) ca36 rfl (args2 rfl rfl) (get_hit (v := V2) (no := 1) (f := (⟨1, 3, [(key, v.2)], true, 3, 0⟩ : Frm)) (hH92.front 2 rfl).all1 hd67 (by rw [hV2]; rfl) (show 1 ≤ 1000000 by decide)) ?_)
        rintro _ w101 ⟨v94, s95, sg97, rfl, ho96, hd98, hX99⟩
        refine ⟨_, rfl, ?_⟩
        have hH100 : Has E w101 [s95, sg97, s89, [Hp.one b72 (.cells #[(.int .i64 ((⟨1, 3, [(key, v.2)], true, 3, 0⟩ : Frm).no)), (.int .i64 ((⟨1, 3, [(key, v.2)], true, 3, 0⟩ : Frm).gsn)), v63] 36 (0, 0))], s58, s38, [Hp.one b12 (.cells #[(.int .i64 (setNo 1 0 ([] : List Cel) key (v.1, v.2) 3)), (.int .i64 (setG 1 0 ([] : List Cel) key (v.1, v.2) 3)), v6] 36 (0, 0))], [Hp.one b2 (.cells #[(.bool v.1), (S v.2)] 62 (0, 0))], R] := hX99.of_all2
        have ho102 : Own 70 2 v94 [((key, v.2) : Cel)].length ([((key, v.2) : Cel)].flatMap ceC) s95 := ho96
        refine s_op (o_move (v := (.tuple #[(.agg #[(.int .i64 ((⟨1, 3, [(key, v.2)], true, 3, 0⟩ : Frm).no)), (.int .i64 ((⟨1, 3, [(key, v.2)], true, 3, 0⟩ : Frm).gsn)), v94]), (.int .i64 0)])) rfl ?_)
        refine s_op (o_extract (v := (.agg #[(.int .i64 ((⟨1, 3, [(key, v.2)], true, 3, 0⟩ : Frm).no)), (.int .i64 ((⟨1, 3, [(key, v.2)], true, 3, 0⟩ : Frm).gsn)), v94])) rfl rfl ?_)
        refine s_op (o_extract (v := (.int .i64 0)) rfl rfl ?_)
        refine s_op (o_alloc (cs := #[(.int .i64 0), (.int .i64 0), (.slice none 0 0)]) ti36 rfl hH100 fun b103 w104 hH105 => ?_)
        refine s_eff (o_storeN (vs := [(.int .i64 ((⟨1, 3, [(key, v.2)], true, 3, 0⟩ : Frm).no)), (.int .i64 ((⟨1, 3, [(key, v.2)], true, 3, 0⟩ : Frm).gsn)), v94]) (c' := #[(.int .i64 ((⟨1, 3, [(key, v.2)], true, 3, 0⟩ : Frm).no)), (.int .i64 ((⟨1, 3, [(key, v.2)], true, 3, 0⟩ : Frm).gsn)), v94]) ti36 rfl rfl rfl rfl (by intro u hu; simp only [List.mem_cons, List.not_mem_nil, or_false] at hu; rcases hu with rfl | rfl | rfl <;> first | rfl | exact ho102.one) (by simp) (by kernel_rfl) (hH105.front 0 rfl) fun w106 hH107 => ?_)
        refine s_op (o_assign (v := (.int .i64 0)) rfl ?_)
        refine s_nil ?_
        refine t_norm (hK93 _ _ ?_)
        refine wp_seq_k fun K108 hK108 => ?_
        refine Rest.region mixed (by kernel_rfl) ?_
        have hH109 : Has E { w106 with drawn := w106.drawn + 1 } [[Hp.one b103 (.cells #[(.int .i64 ((⟨1, 3, [(key, v.2)], true, 3, 0⟩ : Frm).no)), (.int .i64 ((⟨1, 3, [(key, v.2)], true, 3, 0⟩ : Frm).gsn)), v94] 36 (0, 0))], s95, sg97, s89, [Hp.one b72 (.cells #[(.int .i64 ((⟨1, 3, [(key, v.2)], true, 3, 0⟩ : Frm).no)), (.int .i64 ((⟨1, 3, [(key, v.2)], true, 3, 0⟩ : Frm).gsn)), v63] 36 (0, 0))], s58, s38, [Hp.one b12 (.cells #[(.int .i64 (setNo 1 0 ([] : List Cel) key (v.1, v.2) 3)), (.int .i64 (setG 1 0 ([] : List Cel) key (v.1, v.2) 3)), v6] 36 (0, 0))], [Hp.one b2 (.cells #[(.bool v.1), (S v.2)] 62 (0, 0))], R] := Has0.drew hH107 _
        refine r_op 0 rfl (by kernel_rfl) (o_move (v := (.int .i64 0)) rfl ?_)
        refine r_op 1 rfl (by kernel_rfl) (o_eql (a := 0) (b := 0) rfl rfl ?_)
        refine r_op 2 rfl (by kernel_rfl) (o_move (v := (.bool true)) rfl ?_)
        refine r_on 3 rfl (by kernel_rfl) 81 rfl rfl (o_fieldAddr (k := 2) (fun _ => by kernel_rfl) rfl ?_)
        refine r_on 4 rfl (by kernel_rfl) 81 rfl rfl (o_load1 (v := v94) Tryz.underlying34 rfl rfl hH109 (seg_sub 0 rfl) (CellsAt.one rfl) ?_)
        refine r_on 5 rfl (by kernel_rfl) 81 rfl rfl (o_lenS Tryz.underlying34 rfl ho102.sl ?_)
        refine r_on 6 rfl (by kernel_rfl) 81 rfl rfl (o_eql (a := 1) (b := 1) rfl rfl ?_)
        refine r_op 7 rfl (by kernel_rfl) (o_pick_t (u := (.bool true)) rfl rfl ?_)
        refine r_op 8 rfl (by kernel_rfl) (o_move (v := (.bool true)) rfl ?_)
        refine Rest.phaseA (fun w_ => Has E w_ [[Hp.one b103 (.cells #[(.int .i64 ((⟨1, 3, [(key, v.2)], true, 3, 0⟩ : Frm).no)), (.int .i64 ((⟨1, 3, [(key, v.2)], true, 3, 0⟩ : Frm).gsn)), v94] 36 (0, 0))], s95]) 9 15 6 rfl (by decide) (by kernel_rfl) ?_
        refine a_on 9 rfl (by kernel_rfl) 87 rfl rfl (fun w_ h_ => o_fieldAddr (k := 2) (fun _ => by kernel_rfl) rfl ⟨rfl, rfl⟩) ?_
        refine a_on 10 rfl (by kernel_rfl) 87 rfl rfl (fun w_ h_ => o_load1 (v := v94) Tryz.underlying34 rfl rfl h_ (seg_sub 0 rfl) (CellsAt.one rfl) ⟨rfl, rfl⟩) ?_
        obtain ⟨b110, o111, hc112, ho113⟩ := ix_exF ceC_len Tryz.underlying34 ti70 ho102.sl (by omega) (show [((key, v.2) : Cel)][((0 : Int)).toNat]? = some ((key, v.2) : Cel) from rfl)
        refine a_on 11 rfl (by kernel_rfl) 87 rfl rfl (fun w_ h_ => ho113 rfl rfl ⟨rfl, rfl⟩) ?_
        refine a_on 12 rfl (by kernel_rfl) 87 rfl rfl (fun w_ h_ => o_fieldAddr (k := o111) (fun _ => by kernel_rfl) rfl ⟨rfl, rfl⟩) ?_
        refine a_on 13 rfl (by kernel_rfl) 87 rfl rfl (fun w_ h_ => o_load1 (v := (S (((key, v.2) : Cel).1))) Tryz.underlying9 rfl rfl h_ (seg_sub 1 rfl) (CellsAt.field (k := 0) (ds := [(S (((key, v.2) : Cel).1))]) hc112 rfl) ⟨rfl, rfl⟩) ?_
        refine a_on 14 rfl (by kernel_rfl) 87 rfl rfl (fun w_ h_ => o_move (v := (S key)) rfl ⟨rfl, rfl⟩) ?_
        have hH114 : Has E { w106 with drawn := w106.drawn + 1 } [[Hp.one b103 (.cells #[(.int .i64 ((⟨1, 3, [(key, v.2)], true, 3, 0⟩ : Frm).no)), (.int .i64 ((⟨1, 3, [(key, v.2)], true, 3, 0⟩ : Frm).gsn)), v94] 36 (0, 0))], s95] := ((hH109.front 1 rfl).front 1 rfl).first 2 rfl
        refine a_done (by kernel_rfl) hH114 ?_
        refine r_on 15 rfl (by kernel_rfl) 87 rfl rfl (o_seql (a := ((key, v.2) : Cel).1) (b := key) rfl rfl ?_)
        refine r_op 16 rfl (by kernel_rfl) (o_pick_t (u := (.bool (decide (((key, v.2) : Cel).1 = key)))) rfl rfl ?_)
        refine r_op 17 rfl (by kernel_rfl) (o_move (v := (.bool (decide (((key, v.2) : Cel).1 = key)))) rfl ?_)
        refine Rest.phaseA (fun w_ => Has E w_ [[Hp.one b103 (.cells #[(.int .i64 ((⟨1, 3, [(key, v.2)], true, 3, 0⟩ : Frm).no)), (.int .i64 ((⟨1, 3, [(key, v.2)], true, 3, 0⟩ : Frm).gsn)), v94] 36 (0, 0))], s95, [Hp.one b2 (.cells #[(.bool v.1), (S v.2)] 62 (0, 0))]]) 18 25 7 rfl (by decide) (by kernel_rfl) ?_
        by_cases h115 : ((key, v.2) : Cel).1 = key
        · -- ((key, v.2) : Cel).1 = key
          refine a_on 18 rfl (by kernel_rfl) 96 rfl (congrArg Value.bool (decide_eq_true h115)) (fun w_ h_ => o_fieldAddr (k := 2) (fun _ => by kernel_rfl) rfl ⟨rfl, rfl⟩) ?_
          refine a_on 19 rfl (by kernel_rfl) 96 rfl (congrArg Value.bool (decide_eq_true h115)) (fun w_ h_ => o_load1 (v := v94) Tryz.underlying34 rfl rfl h_ (seg_sub 0 rfl) (CellsAt.one rfl) ⟨rfl, rfl⟩) ?_
          obtain ⟨b116, o117, hc118, ho119⟩ := ix_exF ceC_len Tryz.underlying34 ti70 ho102.sl (by omega) (show [((key, v.2) : Cel)][((0 : Int)).toNat]? = some ((key, v.2) : Cel) from rfl)
          refine a_on 20 rfl (by kernel_rfl) 96 rfl (congrArg Value.bool (decide_eq_true h115)) (fun w_ h_ => ho119 rfl rfl ⟨rfl, rfl⟩) ?_
          refine a_on 21 rfl (by kernel_rfl) 96 rfl (congrArg Value.bool (decide_eq_true h115)) (fun w_ h_ => o_fieldAddr (k := o117 + 1) (fun _ => by kernel_rfl) rfl ⟨rfl, rfl⟩) ?_
          refine a_on 22 rfl (by kernel_rfl) 96 rfl (congrArg Value.bool (decide_eq_true h115)) (fun w_ h_ => o_load1 (v := (S (((key, v.2) : Cel).2))) Tryz.underlying9 rfl rfl h_ (seg_sub 1 rfl) (CellsAt.field (k := 1) (ds := [(S (((key, v.2) : Cel).2))]) hc118 rfl) ⟨rfl, rfl⟩) ?_
          refine a_on 23 rfl (by kernel_rfl) 96 rfl (congrArg Value.bool (decide_eq_true h115)) (fun w_ h_ => o_fieldAddr (k := 1) (fun _ => by kernel_rfl) rfl ⟨rfl, rfl⟩) ?_
          refine a_on 24 rfl (by kernel_rfl) 96 rfl (congrArg Value.bool (decide_eq_true h115)) (fun w_ h_ => o_load1 (v := (S v.2)) Tryz.underlying9 rfl rfl h_ (seg_sub 2 rfl) (CellsAt.one rfl) ⟨rfl, rfl⟩) ?_
          have hH120 : Has E { w106 with drawn := w106.drawn + 1 } [[Hp.one b103 (.cells #[(.int .i64 ((⟨1, 3, [(key, v.2)], true, 3, 0⟩ : Frm).no)), (.int .i64 ((⟨1, 3, [(key, v.2)], true, 3, 0⟩ : Frm).gsn)), v94] 36 (0, 0))], s95, [Hp.one b2 (.cells #[(.bool v.1), (S v.2)] 62 (0, 0))]] := (((hH109.front 8 rfl).front 2 rfl).front 2 rfl).first 3 rfl
          refine a_done (by kernel_rfl) hH120 ?_
          refine r_on 25 rfl (by kernel_rfl) 96 rfl (congrArg Value.bool (decide_eq_true h115)) (o_seql (a := ((key, v.2) : Cel).2) (b := v.2) rfl rfl ?_)
          refine r_op 26 rfl (by kernel_rfl) (o_pick_t (u := (.bool (decide (((key, v.2) : Cel).2 = v.2)))) ((rfl : _ = _).trans (congrArg Value.bool (decide_eq_true h115))) rfl ?_)
          refine r_op 27 rfl (by kernel_rfl) (o_assign (v := (.bool (decide (((key, v.2) : Cel).2 = v.2)))) rfl ?_)
          refine Rest.done (by kernel_rfl) ?_
          refine t_norm (hK108 _ _ ?_)
          refine wp_ret ?_
          refine c_ret1 Tryz.results7  (v := (.bool (decide (((key, v.2) : Cel).2 = v.2)))) rfl ?_
          have hH121 : Has E { w106 with drawn := w106.drawn + 1 } [R] := (hH109.front 9 rfl).first 1 rfl
          exact ⟨by first | rfl | (rw [decide_eq_true rfl]) | (rw [decide_eq_true (by decide)]), hH121⟩
        · -- not: ((key, v.2) : Cel).1 = key
          exact absurd rfl h115
end Go.Q
namespace Go.Q
theorem arr_cells {H : Type} {enc : TypeId × Value → H} {P : Program} {w : World} {base : Nat} {spare : Nat → Bool} {held : Bool} {fuel n : Nat} {t e : TypeId} {k : IntKind} {cs : List Value} {l : List Int} {p : List MemPlace}
    (ht : P.underlying t = some (.array n e)) (he : P.underlying e = some (.int k)) (hc : P.cellsOf e = 1) (hl : l.length = n)
    (h : DataW.trod enc P w base spare held fuel t cs = some (.agg (l.map fun z => (DataW.lit (Lit.int k z) : DataW H)), p)) : ∀ (i : Nat) (z : Int), l[i]? = some z → cs[i]? = some (Value.int k z) := by
  intro i z hz
  obtain ⟨xs, m, _, hx, _, hn, hel⟩ := DataW.trod_array ht h
  simp only [Prod.mk.injEq, DataW.agg.injEq] at hx
  have hi : i < n := by rw [← hl]; exact (List.getElem?_eq_some_iff.1 hz).1
  have h1 := hel i hi
  rw [hc, Nat.mul_one, List.getElem?_eq_getElem (by omega)] at h1
  obtain ⟨r, e1, e2, _⟩ := DataW.trod_int he h1
  have e3 : (xs.map (·.1))[i]? = some (DataW.lit (Lit.int k z)) := by rw [← hx.1, List.getElem?_map, hz]; rfl
  rw [List.getElem?_map, List.getElem?_eq_getElem (by omega), Option.map_some] at e3
  rw [e2] at e3
  have e4 : r = z := by simpa using e3
  subst e4
  have e5 : (List.take 1 (List.drop i cs))[0]? = some (.int k r) := by rw [e1]; rfl
  rw [List.getElem?_take, if_pos (by omega), List.getElem?_drop] at e5
  simpa using e5
end Go.Q
namespace Go.Q
open Go.Proofs
set_option linter.unusedVariables false
set_option maxRecDepth 100000
attribute [local irreducible] wpList OK Code.wp
theorem rd_val {H : Type} {enc : TypeId × Value → H} {w : World} {cs : List Value} (h : Rd enc Tryz.prog w 62 cs) : ∃ a : Bool × Bs, cs = vlC a ∧ True := by
  obtain ⟨hl, hf⟩ := rd_struct Tryz.underlying62 h
  have hl : cs.length = 2 := hl.trans (by kernel_rfl)
  obtain ⟨c0, c1, rfl⟩ : ∃ c0 c1, cs = [c0, c1] := by
    match cs, hl with
    | [c0, c1], _ => exact ⟨c0, c1, rfl⟩
  have f0_6 : Rd enc Tryz.prog w 4 [c0] := rd_field (i := 0) (k := 1) hf rfl rfl (by kernel_rfl) rfl
  obtain ⟨n0, e0⟩ := rd_bool Tryz.underlying4 f0_6
  obtain rfl := (List.cons.inj e0).1
  have f1_9 : Rd enc Tryz.prog w 9 [c1] := rd_field (i := 1) (k := 1) hf rfl rfl (by kernel_rfl) rfl
  obtain ⟨n1, e1, b1⟩ := rd_string Tryz.underlying9 f1_9
  obtain rfl := (List.cons.inj e1).1
  exact ⟨(n0, n1), rfl, trivial⟩
end Go.Q
