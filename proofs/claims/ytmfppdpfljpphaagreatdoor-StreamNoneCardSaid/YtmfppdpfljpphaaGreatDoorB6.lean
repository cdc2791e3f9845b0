/-
  Parts of a walk: what functions of the program compute, each told by a theorem (Qsm10, QStmK, QStmA, QEq, QsEq8, Qsm15, QsL9, QYD, QsRd).
-/
import Derived.Test.YtmfppdpfljpphaaGreatDoorB5
import Derived.Laws.StructEq
import Derived.OpenShut
set_option linter.unusedVariables false
set_option linter.unusedSimpArgs false
set_option linter.unnecessarySimpa false
namespace Go.Q
open Go.Proofs
set_option linter.unusedVariables false
set_option maxRecDepth 100000
attribute [local irreducible] wpList OK Code.wp
set_option maxHeartbeats 4000000 in
theorem sflush_c {E w : World} {R sg ss : List Hp} {pb sb db ab : Nat} {d : Dv} {v : StmS} {n : Int} (hH : Has E w [sg, [Hp.one pb (.cells #[(.bool d.p.off), (.bool d.p.armed), (.int .i64 d.p.left), (.int .i64 d.p.uses)] 145 (0, 0))], [Hp.one ab (.cells #[(.pointer (some ⟨db, 0, none⟩)), (.int .i64 2), (.int .i64 n)] 265 (0, 0))], ss, R]) (hd : DevAt pb sg db d.la d.lo) (hs : StmAt db ab sb ss v) {k : Nat} (hf : Few d.p k) (hk : k ≤ 390000) (hlk : LoOk d.lo d.la.length) (h4 : d.la.length ≤ 4096) (h64 : Full64 d.la) (hln : (d.la.length : Int) = n + 2) (hok : StmOk n v) (hg : CellsAt R 0 0 nibV) {mark : Int} :
    Calls Tryz.prog 23 #[(.pointer (some ⟨sb, 0, none⟩)), (.int .i64 mark)] w fun e w' => ∃ sg' ss', e = .returned (.int .i64 (flS n d v mark).1) ∧ DevAt pb sg' db (flS n d v mark).2.1.la (flS n d v mark).2.1.lo ∧ StmAt db ab sb ss' (flS n d v mark).2.2 ∧ Has E w' [sg', [Hp.one pb (.cells #[(.bool ((flS n d v mark).2.1).p.off), (.bool ((flS n d v mark).2.1).p.armed), (.int .i64 ((flS n d v mark).2.1).p.left), (.int .i64 ((flS n d v mark).2.1).p.uses)] 145 (0, 0))], [Hp.one ab (.cells #[(.pointer (some ⟨db, 0, none⟩)), (.int .i64 2), (.int .i64 n)] 265 (0, 0))], ss', R] := by
  obtain ⟨hle1_, hle2_⟩ := hok.le
  obtain ⟨hn1_, hn2_⟩ := hok.num
  obtain ⟨hm1_, hm2_⟩ := hok.mrk
  obtain ⟨hs1_, hs2_⟩ := hok.st
  have ht_ := hok.tail
  obtain ⟨hr1_, hr2_⟩ := hok.res
  obtain ⟨hf1_, hf2_⟩ := hok.fl
  obtain ⟨hla1_, hla2_, hla3_⟩ := last_le hok
  have hfv_ : freeV n v = n * 64 - (v.tail - v.st) - v.res := rfl
  have hdl_ : (v.l.drop v.flushed.toNat).length = v.l.length - v.flushed.toNat := List.length_drop
  refine c_enter (args := [(.pointer (some ⟨sb, 0, none⟩)), (.int .i64 mark)]) Tryz.func23 rfl Tryz.ntmps23 (by simp) ?_
  refine wp_seq_k fun K1 hK1 => ?_
  refine c_region ?_
  refine s_op (o_assign (v := (.int .i64 0)) rfl ?_)
  refine s_nil ?_
  refine t_norm (hK1 _ _ ?_)
  refine wp_seq_k fun K2 hK2 => ?_
  refine wp_seq_k fun K3 hK3 => ?_
  refine c_region ?_
  refine s_op (o_move (v := (.pointer (some ⟨sb, 0, none⟩))) rfl ?_)
  refine s_op (o_callf (vs := #[(.pointer (some ⟨sb, 0, none⟩))]) ca106 rfl (args1 rfl) (sready_c (v := v) (db := db) (ab := ab) hH.all (hs.rd.mono (seg_sub 3 rfl))) ?_)
  rintro _ w6 ⟨rfl, hX4⟩
  refine ⟨_, rfl, ?_⟩
  have hH5 := hX4.of_all
  refine s_op (o_assign (v := (.int .i64 (readyE v))) rfl ?_)
  refine s_nil ?_
  refine t_norm (hK3 _ _ ?_)
  refine wp_seq_k fun K7 hK7 => ?_
  refine c_region ?_
  refine s_op (o_move (v := (.int .i64 (readyE v))) rfl ?_)
  refine s_op (o_neq (a := (readyE v)) (b := 0) rfl rfl ?_)
  refine s_nil ?_
  refine t_norm (hK7 _ _ ?_)
  refine c_cond rfl (fun h8 => ?_) (fun h8 => ?_)
  · -- (readyE v) ≠ 0
    refine wp_seq_k fun K9 hK9 => ?_
    refine c_region ?_
    refine s_op (o_move (v := (.int .i64 (readyE v))) rfl ?_)
    refine s_op (o_assign (v := (.int .i64 (readyE v))) rfl ?_)
    refine s_nil ?_
    refine t_norm (hK9 _ _ ?_)
    refine wp_ret ?_
    refine t_ret (c_ret1 Tryz.results23  (v := (.int .i64 (readyE v))) rfl ?_)
    have hE_ : (flS n d v mark) = ((readyE v), d, v) := by
      exact if_pos h8
    exact ⟨_, _, by rw [hE_], by rw [hE_]; exact hd, by rw [hE_]; exact hs, by rw [hE_]; exact hH5⟩
  · -- not: (readyE v) ≠ 0
    refine wp_skip ?_
    refine t_norm (hK2 _ _ ?_)
    refine wp_seq_k fun K10 hK10 => ?_
    refine wp_seq_k fun K11 hK11 => ?_
    refine c_region ?_
    refine s_op (o_move (v := (.int .i64 mark)) rfl ?_)
    refine s_op (o_move (v := (.pointer (some ⟨sb, 0, none⟩))) rfl ?_)
    refine s_op (o_callf (vs := #[(.pointer (some ⟨sb, 0, none⟩))]) ca29 rfl (args1 rfl) (slast_c (v := v) (db := db) (ab := ab) (n := n) hH5.all (hs.rd.mono (seg_sub 3 rfl)) hok) ?_)
    rintro _ w14 ⟨rfl, hX12⟩
    refine ⟨_, rfl, ?_⟩
    have hH13 := hX12.of_all
    refine s_op (o_lss (a := mark) (b := (lastV v)) rfl rfl ?_)
    refine s_op (o_move (v := (.bool (decide (mark < (lastV v))))) rfl ?_)
    by_cases h15 : mark < (lastV v)
    · -- mark < (lastV v)
      refine s_off (b' := true) 21 rfl (congrArg Value.bool (decide_eq_true h15)) rfl ?_
      refine s_off (b' := true) 21 rfl (congrArg Value.bool (decide_eq_true h15)) rfl ?_
      refine s_op (o_pick_t (u := (.bool true)) ((rfl : _ = _).trans (congrArg Value.bool (decide_eq_true h15))) rfl ?_)
      refine s_nil ?_
      refine t_norm (hK11 _ _ ?_)
      refine c_true rfl rfl ?_
      refine wp_seq_k fun K16 hK16 => ?_
      refine c_region ?_
      refine s_op (o_assign (v := (.int .i64 1)) rfl ?_)
      refine s_nil ?_
      refine t_norm (hK16 _ _ ?_)
      refine wp_ret ?_
      refine t_ret (c_ret1 Tryz.results23  (v := (.int .i64 1)) rfl ?_)
      have hE_ : (flS n d v mark) = (1, d, v) := by
        exact (if_neg h8).trans (if_pos (by omega))
      exact ⟨_, _, by rw [hE_], by rw [hE_]; exact hd, by rw [hE_]; exact hs, by rw [hE_]; exact hH13⟩
    · -- not: mark < (lastV v)
      refine s_on 21 rfl (congrArg Value.bool (decide_eq_false h15)) (o_move (v := (.int .i64 mark)) rfl ?_)
      refine s_on 21 rfl (congrArg Value.bool (decide_eq_false h15)) (o_gtr (a := mark) (b := 4611686018427387903) rfl rfl ?_)
      refine s_op (o_pick_f (u := (.bool (decide (4611686018427387903 < mark)))) ((rfl : _ = _).trans (congrArg Value.bool (decide_eq_false h15))) rfl ?_)
      refine s_nil ?_
      refine t_norm (hK11 _ _ ?_)
      refine c_cond rfl (fun h17 => ?_) (fun h17 => ?_)
      · -- 4611686018427387903 < mark
        refine wp_seq_k fun K18 hK18 => ?_
        refine c_region ?_
        refine s_op (o_assign (v := (.int .i64 1)) rfl ?_)
        refine s_nil ?_
        refine t_norm (hK18 _ _ ?_)
        refine wp_ret ?_
        refine t_ret (c_ret1 Tryz.results23  (v := (.int .i64 1)) rfl ?_)
        have hE_ : (flS n d v mark) = (1, d, v) := by
          exact (if_neg h8).trans (if_pos (by omega))
        exact ⟨_, _, by rw [hE_], by rw [hE_]; exact hd, by rw [hE_]; exact hs, by rw [hE_]; exact hH13⟩
      · -- not: 4611686018427387903 < mark
        refine wp_skip ?_
        refine t_norm (hK10 _ _ ?_)
        refine wp_seq_k fun K19 hK19 => ?_
        refine wp_seq_k fun K20 hK20 => ?_
        refine c_region ?_
        refine s_op (o_move (v := (.pointer (some ⟨sb, 0, none⟩))) rfl ?_)
        refine s_op (o_callf (vs := #[(.pointer (some ⟨sb, 0, none⟩))]) ca37 rfl (args1 rfl) (sloose_c (v := v) (db := db) (ab := ab) (n := n) hH13.all (hs.rd.mono (seg_sub 3 rfl)) hok) ?_)
        rintro _ w23 ⟨rfl, hX21⟩
        refine ⟨_, rfl, ?_⟩
        have hH22 := hX21.of_all
        refine s_op (o_gtr (a := ((v.l.length : Int) - v.flushed)) (b := 0) rfl rfl ?_)
        refine s_nil ?_
        refine t_norm (hK20 _ _ ?_)
        refine c_cond rfl (fun h24 => ?_) (fun h24 => ?_)
        · -- 0 < ((v.l.length : Int) - v.flushed)
          refine wp_seq_k fun K25 hK25 => ?_
          refine c_region ?_
          refine s_op (o_assign (v := (.slice none 0 0)) rfl ?_)
          refine s_nil ?_
          refine t_norm (hK25 _ _ ?_)
          refine wp_seq_k fun K26 hK26 => ?_
          refine wp_seq_k fun K27 hK27 => ?_
          refine Rest.region mixed (by kernel_rfl) ?_
          have hH28 : Has E { w23 with drawn := w23.drawn + 1 } [sg, [Hp.one pb (.cells #[(.bool d.p.off), (.bool d.p.armed), (.int .i64 d.p.left), (.int .i64 d.p.uses)] 145 (0, 0))], [Hp.one ab (.cells #[(.pointer (some ⟨db, 0, none⟩)), (.int .i64 2), (.int .i64 n)] 265 (0, 0))], ss, R] := Has0.drew hH22 _
          obtain ⟨x29, s30, rfl, f31⟩ := hs
          have hH32 : Has E { w23 with drawn := w23.drawn + 1 } [[Hp.one sb (.cells #[(.int .i64 v.seq), (.int .i64 v.ep), (.int .i64 v.hcut), (.int .i64 v.st), (.int .i64 v.mrk), (.pointer (some ⟨db, 0, none⟩)), (.pointer (some ⟨ab, 0, none⟩)), x29, (.int .i64 v.tail), (.int .i64 v.flushed), (.int .i64 v.res), (.bool v.cut), (.int .i64 v.err)] 175 (0, 0))], s30, sg, [Hp.one pb (.cells #[(.bool d.p.off), (.bool d.p.armed), (.int .i64 d.p.left), (.int .i64 d.p.uses)] 145 (0, 0))], [Hp.one ab (.cells #[(.pointer (some ⟨db, 0, none⟩)), (.int .i64 2), (.int .i64 n)] 265 (0, 0))], R] := Has.op2 (hH28.front 3 rfl)
          refine Rest.phaseA (fun w_ => Has E w_ [[Hp.one sb (.cells #[(.int .i64 v.seq), (.int .i64 v.ep), (.int .i64 v.hcut), (.int .i64 v.st), (.int .i64 v.mrk), (.pointer (some ⟨db, 0, none⟩)), (.pointer (some ⟨ab, 0, none⟩)), x29, (.int .i64 v.tail), (.int .i64 v.flushed), (.int .i64 v.res), (.bool v.cut), (.int .i64 v.err)] 175 (0, 0))]]) 0 11 11 rfl (by decide) (by kernel_rfl) ?_
          refine a_op 0 rfl (by kernel_rfl) (fun w_ h_ => o_move (v := (.pointer (some ⟨sb, 0, none⟩))) rfl ⟨rfl, rfl⟩) ?_
          refine a_op 1 rfl (by kernel_rfl) (fun w_ h_ => o_nilCheck rfl ⟨rfl, rfl⟩) ?_
          refine a_op 2 rfl (by kernel_rfl) (fun w_ h_ => o_fieldAddr (k := 7) (fun _ => by kernel_rfl) rfl ⟨rfl, rfl⟩) ?_
          refine a_op 3 rfl (by kernel_rfl) (fun w_ h_ => o_load1 (v := x29) Tryz.underlying37 rfl rfl h_ (seg_sub 0 rfl) (CellsAt.one rfl) ⟨rfl, rfl⟩) ?_
          refine a_op 4 rfl (by kernel_rfl) (fun w_ h_ => o_move (v := (.pointer (some ⟨sb, 0, none⟩))) rfl ⟨rfl, rfl⟩) ?_
          refine a_op 5 rfl (by kernel_rfl) (fun w_ h_ => o_nilCheck rfl ⟨rfl, rfl⟩) ?_
          refine a_op 6 rfl (by kernel_rfl) (fun w_ h_ => o_fieldAddr (k := 9) (fun _ => by kernel_rfl) rfl ⟨rfl, rfl⟩) ?_
          refine a_op 7 rfl (by kernel_rfl) (fun w_ h_ => o_load1 (v := (.int .i64 v.flushed)) Tryz.underlying3 rfl rfl h_ (seg_sub 0 rfl) (CellsAt.one rfl) ⟨rfl, rfl⟩) ?_
          refine a_op 10 rfl (by kernel_rfl) (fun w_ h_ => o_move (v := (.int .i64 0)) rfl ⟨rfl, rfl⟩) ?_
          have hH33 : Has E { w23 with drawn := w23.drawn + 1 } [[Hp.one sb (.cells #[(.int .i64 v.seq), (.int .i64 v.ep), (.int .i64 v.hcut), (.int .i64 v.st), (.int .i64 v.mrk), (.pointer (some ⟨db, 0, none⟩)), (.pointer (some ⟨ab, 0, none⟩)), x29, (.int .i64 v.tail), (.int .i64 v.flushed), (.int .i64 v.res), (.bool v.cut), (.int .i64 v.err)] 175 (0, 0))]] := hH32.first 1 rfl
          refine a_w 8 rfl (by kernel_rfl) hH33 (o_sl_l Tryz.underlying37 ti42 rfl f31.sl rfl (by omega) (by omega) fun v34 hv35 => ?_)
          have hv36 := sl_dropF enC_len hv35
          refine a_op 9 rfl (by kernel_rfl) (fun w_ h_ => o_lenS Tryz.underlying37 rfl hv36 ⟨rfl, rfl⟩) ?_
          have hH37 : Has E { w23 with drawn := w23.drawn + 1 } [[Hp.one sb (.cells #[(.int .i64 v.seq), (.int .i64 v.ep), (.int .i64 v.hcut), (.int .i64 v.st), (.int .i64 v.mrk), (.pointer (some ⟨db, 0, none⟩)), (.pointer (some ⟨ab, 0, none⟩)), x29, (.int .i64 v.tail), (.int .i64 v.flushed), (.int .i64 v.res), (.bool v.cut), (.int .i64 v.err)] 175 (0, 0))]] := hH32.first 1 rfl
          refine a_done (by kernel_rfl) hH37 ?_
          refine Rest.done (by kernel_rfl) ?_
          refine t_norm (hK27 _ _ ?_)
          refine wp_block ?_
          let I39 : Nat → (Nat → Value) → World → Prop := fun n__ r__ w__ => ∃ (j : Nat) (va : Value) (ha : List Hp) (acc : List Bs), n__ = (v.l.drop (v.flushed).toNat).length - j ∧ Has E w__ [ha, [Hp.one sb (.cells #[(.int .i64 v.seq), (.int .i64 v.ep), (.int .i64 v.hcut), (.int .i64 v.st), (.int .i64 v.mrk), (.pointer (some ⟨db, 0, none⟩)), (.pointer (some ⟨ab, 0, none⟩)), x29, (.int .i64 v.tail), (.int .i64 v.flushed), (.int .i64 v.res), (.bool v.cut), (.int .i64 v.err)] 175 (0, 0))], s30, sg, [Hp.one pb (.cells #[(.bool d.p.off), (.bool d.p.armed), (.int .i64 d.p.left), (.int .i64 d.p.uses)] 145 (0, 0))], [Hp.one ab (.cells #[(.pointer (some ⟨db, 0, none⟩)), (.int .i64 2), (.int .i64 n)] 265 (0, 0))], R] ∧ (j ≤ (v.l.drop (v.flushed).toNat).length) ∧ (Own 9 1 va acc.length (acc.map sV) ha) ∧ (acc = layB v.ep ((v.l.drop (v.flushed).toNat).take j)) ∧ (acc.flatten.length ≤ 225 * j) ∧ r__ 0 = (.pointer (some ⟨sb, 0, none⟩)) ∧ r__ 1 = (.int .i64 mark) ∧ r__ 4 = (.int .i64 0) ∧ r__ 5 = (.int .i64 (readyE v)) ∧ r__ 6 = va ∧ r__ 15 = (.bool (decide ((readyE v) ≠ 0))) ∧ r__ 24 = (.bool (decide (4611686018427387903 < mark))) ∧ r__ 27 = (.bool (decide (0 < ((v.l.length : Int) - v.flushed)))) ∧ r__ 36 = v34 ∧ r__ 37 = (.int .i64 (((v.l.drop (v.flushed).toNat).length : Nat) : Int)) ∧ r__ 38 = (.int .i64 (j : Int))
          have hH40 : Has E { w23 with drawn := w23.drawn + 1 } [[], [Hp.one sb (.cells #[(.int .i64 v.seq), (.int .i64 v.ep), (.int .i64 v.hcut), (.int .i64 v.st), (.int .i64 v.mrk), (.pointer (some ⟨db, 0, none⟩)), (.pointer (some ⟨ab, 0, none⟩)), x29, (.int .i64 v.tail), (.int .i64 v.flushed), (.int .i64 v.res), (.bool v.cut), (.int .i64 v.err)] 175 (0, 0))], s30, sg, [Hp.one pb (.cells #[(.bool d.p.off), (.bool d.p.armed), (.int .i64 d.p.left), (.int .i64 d.p.uses)] 145 (0, 0))], [Hp.one ab (.cells #[(.pointer (some ⟨db, 0, none⟩)), (.int .i64 2), (.int .i64 n)] 265 (0, 0))], R] := Has.pick (Has.nil hH32) [0, 0, 0, 0, 0, 0, 0] (by kernel_rfl)
          refine c_loop I39 _ ⟨0, (.slice none 0 0), [], ([] : List Bs), rfl, hH40, Nat.zero_le _, Own.nil 9 1, rfl, (by simp), rfl, rfl, rfl, rfl, rfl, rfl, rfl, rfl, rfl, rfl, rfl⟩ ?_
          rintro n_ r43 w41 ⟨j, va, ha, acc, rfl, hH42, hj, hoa, hac, haf, e38_0, e38_1, e38_4, e38_5, e38_6, e38_15, e38_24, e38_27, e38_36, e38_37, e38_38⟩
          refine wp_seq_k fun K44 hK44 => ?_
          refine c_region ?_
          refine s_op (o_lss (a := (j : Int)) (b := (((v.l.drop (v.flushed).toNat).length : Nat) : Int)) e38_38 e38_37 ?_)
          refine s_nil ?_
          refine t_norm (hK44 _ _ ?_)
          refine wp_seq_k fun K45 hK45 => ?_
          refine c_cond rfl (fun h46 => ?_) (fun h46 => ?_)
          · -- (j : Int) < (((v.l.drop (v.flushed).toNat).length : Nat) : Int)
            refine wp_skip ?_
            refine t_norm (hK45 _ _ ?_)
            refine wp_seq_k fun K47 hK47 => ?_
            refine wp_block ?_
            refine wp_seq_k fun K48 hK48 => ?_
            refine c_region ?_
            obtain ⟨x52, hx53⟩ : ∃ x_, (v.l.drop (v.flushed).toNat)[((j : Int)).toNat]? = some x_ := get_some (by omega)
            refine s_op (o_indexF enC_len Tryz.underlying37 ti42 e38_36 hv36 rfl e38_38 (by omega) hx53 fun b49 o50 hc51 => ?_)
            refine s_op (o_loadN (cs := [(.int .i64 x52.gsn), (.int .i64 x52.at_), (S x52.data)]) Tryz.underlying42 rfl ti42 rfl hH42 (seg_sub 2 rfl) hc51 ?_)
            refine s_op (o_alloc (cs := #[(.int .i64 0), (.int .i64 0), (S ([] : List UInt8))]) ti42 rfl hH42 fun b54 w55 hH56 => ?_)
            refine s_eff (o_storeN (vs := [(.int .i64 x52.gsn), (.int .i64 x52.at_), (S x52.data)]) (c' := #[(.int .i64 x52.gsn), (.int .i64 x52.at_), (S x52.data)]) ti42 rfl rfl rfl rfl (by intro u hu; simp only [List.mem_cons, List.not_mem_nil, or_false] at hu; rcases hu with rfl | rfl | rfl <;> first | rfl) (by simp) (by kernel_rfl) (hH56.front 0 rfl) fun w57 hH58 => ?_)
            refine s_nil ?_
            refine t_norm (hK48 _ _ ?_)
            refine Rest.region mixed (by kernel_rfl) ?_
            have hH59 : Has E { w57 with drawn := w57.drawn + 1 } [[Hp.one b54 (.cells #[(.int .i64 x52.gsn), (.int .i64 x52.at_), (S x52.data)] 42 (0, 0))], ha, [Hp.one sb (.cells #[(.int .i64 v.seq), (.int .i64 v.ep), (.int .i64 v.hcut), (.int .i64 v.st), (.int .i64 v.mrk), (.pointer (some ⟨db, 0, none⟩)), (.pointer (some ⟨ab, 0, none⟩)), x29, (.int .i64 v.tail), (.int .i64 v.flushed), (.int .i64 v.res), (.bool v.cut), (.int .i64 v.err)] 175 (0, 0))], s30, sg, [Hp.one pb (.cells #[(.bool d.p.off), (.bool d.p.armed), (.int .i64 d.p.left), (.int .i64 d.p.uses)] 145 (0, 0))], [Hp.one ab (.cells #[(.pointer (some ⟨db, 0, none⟩)), (.int .i64 2), (.int .i64 n)] 265 (0, 0))], R] := Has0.drew hH58 _
            refine Rest.phaseA (fun w_ => Has E w_ [[Hp.one b54 (.cells #[(.int .i64 x52.gsn), (.int .i64 x52.at_), (S x52.data)] 42 (0, 0))], [Hp.one sb (.cells #[(.int .i64 v.seq), (.int .i64 v.ep), (.int .i64 v.hcut), (.int .i64 v.st), (.int .i64 v.mrk), (.pointer (some ⟨db, 0, none⟩)), (.pointer (some ⟨ab, 0, none⟩)), x29, (.int .i64 v.tail), (.int .i64 v.flushed), (.int .i64 v.res), (.bool v.cut), (.int .i64 v.err)] 175 (0, 0))]]) 0 16 16 rfl (by decide) (by kernel_rfl) ?_
            refine a_op 0 rfl (by kernel_rfl) (fun w_ h_ => o_move (v := va) e38_6 ⟨rfl, rfl⟩) ?_
            refine a_op 1 rfl (by kernel_rfl) (fun w_ h_ => o_move (v := (.pointer (some ⟨sb, 0, none⟩))) e38_0 ⟨rfl, rfl⟩) ?_
            refine a_op 2 rfl (by kernel_rfl) (fun w_ h_ => o_nilCheck rfl ⟨rfl, rfl⟩) ?_
            refine a_op 3 rfl (by kernel_rfl) (fun w_ h_ => o_fieldAddr (k := 0) (fun _ => by kernel_rfl) rfl ⟨rfl, rfl⟩) ?_
            refine a_op 4 rfl (by kernel_rfl) (fun w_ h_ => o_fieldAddr (k := 0) (fun _ => by kernel_rfl) rfl ⟨rfl, rfl⟩) ?_
            refine a_op 5 rfl (by kernel_rfl) (fun w_ h_ => o_fieldAddr (k := 1) (fun _ => by kernel_rfl) rfl ⟨rfl, rfl⟩) ?_
            refine a_op 6 rfl (by kernel_rfl) (fun w_ h_ => o_load1 (v := (.int .i64 v.ep)) Tryz.underlying3 rfl rfl h_ (seg_sub 1 rfl) (CellsAt.one rfl) ⟨rfl, rfl⟩) ?_
            refine a_op 7 rfl (by kernel_rfl) (fun w_ h_ => o_fieldAddr (k := 1) (fun _ => by kernel_rfl) rfl ⟨rfl, rfl⟩) ?_
            refine a_op 8 rfl (by kernel_rfl) (fun w_ h_ => o_load1 (v := (.int .i64 x52.at_)) Tryz.underlying3 rfl rfl h_ (seg_sub 0 rfl) (CellsAt.one rfl) ⟨rfl, rfl⟩) ?_
            refine a_op 9 rfl (by kernel_rfl) (fun w_ h_ => o_fieldAddr (k := 0) (fun _ => by kernel_rfl) rfl ⟨rfl, rfl⟩) ?_
            refine a_op 10 rfl (by kernel_rfl) (fun w_ h_ => o_load1 (v := (.int .i64 x52.gsn)) Tryz.underlying3 rfl rfl h_ (seg_sub 0 rfl) (CellsAt.one rfl) ⟨rfl, rfl⟩) ?_
            refine a_op 11 rfl (by kernel_rfl) (fun w_ h_ => o_fieldAddr (k := 2) (fun _ => by kernel_rfl) rfl ⟨rfl, rfl⟩) ?_
            refine a_op 12 rfl (by kernel_rfl) (fun w_ h_ => o_load1 (v := (S x52.data)) Tryz.underlying9 rfl rfl h_ (seg_sub 0 rfl) (CellsAt.one rfl) ⟨rfl, rfl⟩) ?_
            refine a_op 13 rfl (by kernel_rfl) (fun w_ h_ => o_sight (v := (.agg #[(.int .i64 v.ep), (.int .i64 x52.at_), (.int .i64 x52.gsn), (S x52.data)])) (fun _ => by kernel_rfl) ⟨rfl, rfl⟩) ?_
            have hH60 : Has E { w57 with drawn := w57.drawn + 1 } [[Hp.one b54 (.cells #[(.int .i64 x52.gsn), (.int .i64 x52.at_), (S x52.data)] 42 (0, 0))], [Hp.one sb (.cells #[(.int .i64 v.seq), (.int .i64 v.ep), (.int .i64 v.hcut), (.int .i64 v.st), (.int .i64 v.mrk), (.pointer (some ⟨db, 0, none⟩)), (.pointer (some ⟨ab, 0, none⟩)), x29, (.int .i64 v.tail), (.int .i64 v.flushed), (.int .i64 v.res), (.bool v.cut), (.int .i64 v.err)] 175 (0, 0))]] := ((hH59.front 2 rfl).front 1 rfl).first 2 rfl
            refine a_w 14 rfl (by kernel_rfl) hH60 (o_callf (vs := #[(.agg #[(.int .i64 v.ep), (.int .i64 x52.at_), (.int .i64 x52.gsn), (S x52.data)]), (.slice none 0 0)]) ca107 rfl (args2 rfl rfl) (make1_c hH59.all (hg.mono (seg_sub 7 rfl)) (Fr.mk v.ep x52.at_ x52.gsn x52.data) (by have h_ := hok.dat _ (List.mem_of_mem_drop (List.mem_of_getElem? hx53)); show (x52.data).length ≤ _; omega)) ?_)
            rintro _ w63 ⟨rfl, hX61⟩
            refine ⟨_, rfl, ?_⟩
            have hH62 := hX61.of_all
            have hH64 : Has E w63 [[Hp.one b54 (.cells #[(.int .i64 x52.gsn), (.int .i64 x52.at_), (S x52.data)] 42 (0, 0))], [Hp.one sb (.cells #[(.int .i64 v.seq), (.int .i64 v.ep), (.int .i64 v.hcut), (.int .i64 v.st), (.int .i64 v.mrk), (.pointer (some ⟨db, 0, none⟩)), (.pointer (some ⟨ab, 0, none⟩)), x29, (.int .i64 v.tail), (.int .i64 v.flushed), (.int .i64 v.res), (.bool v.cut), (.int .i64 v.err)] 175 (0, 0))]] := ((hH62.front 2 rfl).front 1 rfl).first 2 rfl
            refine a_w 15 rfl (by kernel_rfl) hH64 (o_buildSlice (ps := #[(0, (S (makeS (Fr.mk v.ep x52.at_ x52.gsn x52.data))))]) (cells := #[(S (makeS (Fr.mk v.ep x52.at_ x52.gsn x52.data)))]) Tryz.underlying46 ti9 (by decide) (parts1 rfl) (by kernel_rfl) hH62 fun b65 w66 hH67 => ?_)
            have hH68 : Has E w66 [[Hp.one b54 (.cells #[(.int .i64 x52.gsn), (.int .i64 x52.at_), (S x52.data)] 42 (0, 0))], [Hp.one sb (.cells #[(.int .i64 v.seq), (.int .i64 v.ep), (.int .i64 v.hcut), (.int .i64 v.st), (.int .i64 v.mrk), (.pointer (some ⟨db, 0, none⟩)), (.pointer (some ⟨ab, 0, none⟩)), x29, (.int .i64 v.tail), (.int .i64 v.flushed), (.int .i64 v.res), (.bool v.cut), (.int .i64 v.err)] 175 (0, 0))]] := ((hH67.front 3 rfl).front 2 rfl).first 2 rfl
            refine a_done (by kernel_rfl) hH68 ?_
            refine r_op 16 rfl (by kernel_rfl) (o_append Tryz.underlying46 ti9 rfl (by decide) rfl hoa rfl (sl_lit (f := sV) (l := [(makeS (Fr.mk v.ep x52.at_ x52.gsn x52.data))]) rfl rfl (by simp)) (hH67.front 2 rfl) (seg_sub 0 rfl) (one_sV _) (by simp only [List.length_cons, List.length_nil]; have := congrArg List.length hac; rw [layB_len, List.length_take, List.length_drop] at this; omega) (by simp only [List.length_cons, List.length_nil]; have := congrArg List.length hac; rw [layB_len, List.length_take, List.length_drop] at this; omega) fun v69 s70 w72 ho71 hH73 => ?_)
            have ho71 : Own 9 1 v69 (acc ++ [(makeS (Fr.mk v.ep x52.at_ x52.gsn x52.data))]).length ((acc ++ [(makeS (Fr.mk v.ep x52.at_ x52.gsn x52.data))]).map sV) s70 := ho71.app
            refine r_op 17 rfl (by kernel_rfl) (o_assign (v := v69) rfl ?_)
            refine Rest.done (by kernel_rfl) ?_
            refine b_norm ?_
            refine t_norm (hK47 _ _ ?_)
            refine c_region ?_
            refine s_op (o_add (a := (j : Int)) (b := 1) e38_38 rfl (w64 (by omega) (by omega)) ?_)
            refine s_op (o_move (v := (.int .i64 ((j : Int) + 1))) rfl ?_)
            refine s_nil ?_
            have hH74 : Has E w72 [s70, [Hp.one sb (.cells #[(.int .i64 v.seq), (.int .i64 v.ep), (.int .i64 v.hcut), (.int .i64 v.st), (.int .i64 v.mrk), (.pointer (some ⟨db, 0, none⟩)), (.pointer (some ⟨ab, 0, none⟩)), x29, (.int .i64 v.tail), (.int .i64 v.flushed), (.int .i64 v.res), (.bool v.cut), (.int .i64 v.err)] 175 (0, 0))], s30, sg, [Hp.one pb (.cells #[(.bool d.p.off), (.bool d.p.armed), (.int .i64 d.p.left), (.int .i64 d.p.uses)] 145 (0, 0))], [Hp.one ab (.cells #[(.pointer (some ⟨db, 0, none⟩)), (.int .i64 2), (.int .i64 n)] 265 (0, 0))], R] := Has.pick hH73 [0, 2, 2, 2, 2, 2, 2] (by kernel_rfl)
            refine t_norm ⟨(v.l.drop (v.flushed).toNat).length - (j + 1), _, rfl, ?_, ?_⟩
            · omega
            · exact ⟨(j + 1), v69, s70, (acc ++ [(makeS (Fr.mk v.ep x52.at_ x52.gsn x52.data))]), rfl, hH74, (by omega), (ho71), (by rw [take_succ_of (show (v.l.drop (v.flushed).toNat)[j]? = some _ from hx53), layB_snoc, ← hac]; rfl), (by rw [List.flatten_append, List.length_append]; have h_ := make_le (frOf v.ep x52); simp only [List.flatten_cons, List.flatten_nil, List.append_nil]; unfold frOf at h_; omega), e38_0, e38_1, e38_4, e38_5, rfl, e38_15, e38_24, e38_27, e38_36, e38_37, rfl⟩
          · -- not: (j : Int) < (((v.l.drop (v.flushed).toNat).length : Nat) : Int)
            refine wp_exit ?_
            refine t_exit (t_exit (x_in (?_)))
            refine t_norm (hK26 _ _ ?_)
            refine wp_seq_k fun K75 hK75 => ?_
            refine wp_seq_k fun K76 hK76 => ?_
            refine Rest.region mixed (by kernel_rfl) ?_
            have hH77 : Has E { w41 with drawn := w41.drawn + 1 } [ha, [Hp.one sb (.cells #[(.int .i64 v.seq), (.int .i64 v.ep), (.int .i64 v.hcut), (.int .i64 v.st), (.int .i64 v.mrk), (.pointer (some ⟨db, 0, none⟩)), (.pointer (some ⟨ab, 0, none⟩)), x29, (.int .i64 v.tail), (.int .i64 v.flushed), (.int .i64 v.res), (.bool v.cut), (.int .i64 v.err)] 175 (0, 0))], s30, sg, [Hp.one pb (.cells #[(.bool d.p.off), (.bool d.p.armed), (.int .i64 d.p.left), (.int .i64 d.p.uses)] 145 (0, 0))], [Hp.one ab (.cells #[(.pointer (some ⟨db, 0, none⟩)), (.int .i64 2), (.int .i64 n)] 265 (0, 0))], R] := Has0.drew hH42 _
            refine Rest.phaseA (fun w_ => Has E w_ [[Hp.one sb (.cells #[(.int .i64 v.seq), (.int .i64 v.ep), (.int .i64 v.hcut), (.int .i64 v.st), (.int .i64 v.mrk), (.pointer (some ⟨db, 0, none⟩)), (.pointer (some ⟨ab, 0, none⟩)), x29, (.int .i64 v.tail), (.int .i64 v.flushed), (.int .i64 v.res), (.bool v.cut), (.int .i64 v.err)] 175 (0, 0))], s30]) 0 16 16 rfl (by decide) (by kernel_rfl) ?_
            refine a_op 0 rfl (by kernel_rfl) (fun w_ h_ => o_move (v := (.pointer (some ⟨sb, 0, none⟩))) e38_0 ⟨rfl, rfl⟩) ?_
            refine a_op 1 rfl (by kernel_rfl) (fun w_ h_ => o_nilCheck rfl ⟨rfl, rfl⟩) ?_
            refine a_op 2 rfl (by kernel_rfl) (fun w_ h_ => o_fieldAddr (k := 6) (fun _ => by kernel_rfl) rfl ⟨rfl, rfl⟩) ?_
            refine a_op 3 rfl (by kernel_rfl) (fun w_ h_ => o_load1 (v := (.pointer (some ⟨ab, 0, none⟩))) Tryz.underlying160 rfl rfl h_ (seg_sub 0 rfl) (CellsAt.one rfl) ⟨rfl, rfl⟩) ?_
            refine a_op 4 rfl (by kernel_rfl) (fun w_ h_ => o_move (v := (.pointer (some ⟨sb, 0, none⟩))) e38_0 ⟨rfl, rfl⟩) ?_
            refine a_op 5 rfl (by kernel_rfl) (fun w_ h_ => o_nilCheck rfl ⟨rfl, rfl⟩) ?_
            refine a_op 6 rfl (by kernel_rfl) (fun w_ h_ => o_fieldAddr (k := 7) (fun _ => by kernel_rfl) rfl ⟨rfl, rfl⟩) ?_
            refine a_op 7 rfl (by kernel_rfl) (fun w_ h_ => o_load1 (v := x29) Tryz.underlying37 rfl rfl h_ (seg_sub 0 rfl) (CellsAt.one rfl) ⟨rfl, rfl⟩) ?_
            refine a_op 8 rfl (by kernel_rfl) (fun w_ h_ => o_move (v := (.pointer (some ⟨sb, 0, none⟩))) e38_0 ⟨rfl, rfl⟩) ?_
            refine a_op 9 rfl (by kernel_rfl) (fun w_ h_ => o_nilCheck rfl ⟨rfl, rfl⟩) ?_
            refine a_op 10 rfl (by kernel_rfl) (fun w_ h_ => o_fieldAddr (k := 9) (fun _ => by kernel_rfl) rfl ⟨rfl, rfl⟩) ?_
            refine a_op 11 rfl (by kernel_rfl) (fun w_ h_ => o_load1 (v := (.int .i64 v.flushed)) Tryz.underlying3 rfl rfl h_ (seg_sub 0 rfl) (CellsAt.one rfl) ⟨rfl, rfl⟩) ?_
            obtain ⟨x81, hx82⟩ : ∃ x_, v.l[(v.flushed).toNat]? = some x_ := get_some (by omega)
            obtain ⟨b78, o79, hc80, ho83⟩ := ix_exF enC_len Tryz.underlying37 ti42 f31.sl (by omega) hx82
            refine a_op 12 rfl (by kernel_rfl) (fun w_ h_ => ho83 rfl rfl ⟨rfl, rfl⟩) ?_
            refine a_op 13 rfl (by kernel_rfl) (fun w_ h_ => o_fieldAddr (k := o79 + 1) (fun _ => by kernel_rfl) rfl ⟨rfl, rfl⟩) ?_
            refine a_op 14 rfl (by kernel_rfl) (fun w_ h_ => o_load1 (v := (.int .i64 x81.at_)) Tryz.underlying3 rfl rfl h_ (seg_sub 1 rfl) (CellsAt.field (k := 1) (ds := [(.int .i64 x81.at_)]) hc80 rfl) ⟨rfl, rfl⟩) ?_
            refine a_op 15 rfl (by kernel_rfl) (fun w_ h_ => o_move (v := va) e38_6 ⟨rfl, rfl⟩) ?_
            have hH84 : Has E { w41 with drawn := w41.drawn + 1 } [[Hp.one sb (.cells #[(.int .i64 v.seq), (.int .i64 v.ep), (.int .i64 v.hcut), (.int .i64 v.st), (.int .i64 v.mrk), (.pointer (some ⟨db, 0, none⟩)), (.pointer (some ⟨ab, 0, none⟩)), x29, (.int .i64 v.tail), (.int .i64 v.flushed), (.int .i64 v.res), (.bool v.cut), (.int .i64 v.err)] 175 (0, 0))], s30] := ((hH77.front 2 rfl).front 2 rfl).first 2 rfl
            refine a_done (by kernel_rfl) hH84 ?_
            refine r_op 16 rfl (by kernel_rfl) (o_callf (vs := #[(.pointer (some ⟨ab, 0, none⟩)), (.int .i64 x81.at_), va]) ca108 rfl (args3 rfl rfl rfl) (dset_c (d := d) (fr := 2) (n := n) (((hH77.front 5 rfl).front 5 rfl).front 5 rfl).all3 hd hf (by omega) h4 (by first | exact h64 | (rw [setA_la]; exact h64)) hlk (by omega) (by omega) (by omega) (at_ := x81.at_) (data := acc) (hoa.sl.mono (seg_sub 0 rfl)) (by have := congrArg List.length hac; rw [layB_len, List.length_take, List.length_drop] at this; omega) (by omega)) ?_)
            rintro _ w89 ⟨sg85, rfl, hd86, hX87⟩
            refine ⟨_, rfl, ?_⟩
            have hH88 : Has E w89 [sg85, [Hp.one pb (.cells #[(.bool ((setA d 2 n x81.at_ acc.flatten).2).p.off), (.bool ((setA d 2 n x81.at_ acc.flatten).2).p.armed), (.int .i64 ((setA d 2 n x81.at_ acc.flatten).2).p.left), (.int .i64 ((setA d 2 n x81.at_ acc.flatten).2).p.uses)] 145 (0, 0))], [Hp.one ab (.cells #[(.pointer (some ⟨db, 0, none⟩)), (.int .i64 2), (.int .i64 n)] 265 (0, 0))], ha, [Hp.one sb (.cells #[(.int .i64 v.seq), (.int .i64 v.ep), (.int .i64 v.hcut), (.int .i64 v.st), (.int .i64 v.mrk), (.pointer (some ⟨db, 0, none⟩)), (.pointer (some ⟨ab, 0, none⟩)), x29, (.int .i64 v.tail), (.int .i64 v.flushed), (.int .i64 v.res), (.bool v.cut), (.int .i64 v.err)] 175 (0, 0))], s30, R] := hX87.of_all3
            refine r_op 17 rfl (by kernel_rfl) (o_assign (v := (.int .i64 ((setA d 2 n x81.at_ acc.flatten).1))) rfl ?_)
            refine Rest.done (by kernel_rfl) ?_
            refine t_norm (hK76 _ _ ?_)
            refine wp_seq_k fun K90 hK90 => ?_
            refine c_region ?_
            refine s_op (o_move (v := (.int .i64 ((setA d 2 n x81.at_ acc.flatten).1))) rfl ?_)
            refine s_op (o_neq (a := (setA d 2 n x81.at_ acc.flatten).1) (b := 0) rfl rfl ?_)
            refine s_nil ?_
            refine t_norm (hK90 _ _ ?_)
            refine c_cond rfl (fun h91 => ?_) (fun h91 => ?_)
            · -- (setA d 2 n x81.at_ acc.flatten).1 ≠ 0
              refine wp_seq_k fun K92 hK92 => ?_
              refine c_region ?_
              refine s_op (o_move (v := (.pointer (some ⟨sb, 0, none⟩))) e38_0 ?_)
              refine s_op (o_move (v := (.int .i64 ((setA d 2 n x81.at_ acc.flatten).1))) rfl ?_)
              have hH93 : Has E w89 [([Hp.one sb (.cells #[(.int .i64 v.seq), (.int .i64 v.ep), (.int .i64 v.hcut), (.int .i64 v.st), (.int .i64 v.mrk), (.pointer (some ⟨db, 0, none⟩)), (.pointer (some ⟨ab, 0, none⟩)), x29, (.int .i64 v.tail), (.int .i64 v.flushed), (.int .i64 v.res), (.bool v.cut), (.int .i64 v.err)] 175 (0, 0))] ++ s30), sg85, [Hp.one pb (.cells #[(.bool ((setA d 2 n x81.at_ acc.flatten).2).p.off), (.bool ((setA d 2 n x81.at_ acc.flatten).2).p.armed), (.int .i64 ((setA d 2 n x81.at_ acc.flatten).2).p.left), (.int .i64 ((setA d 2 n x81.at_ acc.flatten).2).p.uses)] 145 (0, 0))], [Hp.one ab (.cells #[(.pointer (some ⟨db, 0, none⟩)), (.int .i64 2), (.int .i64 n)] 265 (0, 0))], ha, R] := Has.cl2 ((hH88.front 5 rfl).front 5 rfl)
              have hd94 : StmAt db ab sb ([Hp.one sb (.cells #[(.int .i64 v.seq), (.int .i64 v.ep), (.int .i64 v.hcut), (.int .i64 v.st), (.int .i64 v.mrk), (.pointer (some ⟨db, 0, none⟩)), (.pointer (some ⟨ab, 0, none⟩)), x29, (.int .i64 v.tail), (.int .i64 v.flushed), (.int .i64 v.res), (.bool v.cut), (.int .i64 v.err)] 175 (0, 0))] ++ s30) v := StmAt.mk (v := v) f31
              refine s_op (o_callf (vs := #[(.pointer (some ⟨sb, 0, none⟩)), (.int .i64 ((setA d 2 n x81.at_ acc.flatten).1))]) ca109 rfl (args2 rfl rfl) (sstays_c (db := db) (ab := ab) (v := v) (e_ := (setA d 2 n x81.at_ acc.flatten).1) hH93.all1 hd94) ?_)
              rintro _ w99 ⟨sg95, rfl, hd96, hX97⟩
              refine ⟨_, rfl, ?_⟩
              have hH98 : Has E w99 [sg95, sg85, [Hp.one pb (.cells #[(.bool ((setA d 2 n x81.at_ acc.flatten).2).p.off), (.bool ((setA d 2 n x81.at_ acc.flatten).2).p.armed), (.int .i64 ((setA d 2 n x81.at_ acc.flatten).2).p.left), (.int .i64 ((setA d 2 n x81.at_ acc.flatten).2).p.uses)] 145 (0, 0))], [Hp.one ab (.cells #[(.pointer (some ⟨db, 0, none⟩)), (.int .i64 2), (.int .i64 n)] 265 (0, 0))], ha, R] := hX97.of_all1
              refine s_op (o_assign (v := (.int .i64 ((setA d 2 n x81.at_ acc.flatten).1))) rfl ?_)
              refine s_nil ?_
              refine t_norm (hK92 _ _ ?_)
              refine wp_ret ?_
              refine t_ret (t_ret (c_ret1 Tryz.results23  (v := (.int .i64 ((setA d 2 n x81.at_ acc.flatten).1))) rfl ?_))
              have hH100 : Has E w99 [sg85, [Hp.one pb (.cells #[(.bool ((setA d 2 n x81.at_ acc.flatten).2).p.off), (.bool ((setA d 2 n x81.at_ acc.flatten).2).p.armed), (.int .i64 ((setA d 2 n x81.at_ acc.flatten).2).p.left), (.int .i64 ((setA d 2 n x81.at_ acc.flatten).2).p.uses)] 145 (0, 0))], [Hp.one ab (.cells #[(.pointer (some ⟨db, 0, none⟩)), (.int .i64 2), (.int .i64 n)] 265 (0, 0))], sg95, R] := (((((hH98.front 5 rfl).front 1 rfl).front 4 rfl).front 4 rfl).front 4 rfl).first 5 rfl
              have hE_ : (flS n d v mark) = (((setA d 2 n x81.at_ acc.flatten).1), (setA d 2 n x81.at_ acc.flatten).2, (stays v ((setA d 2 n x81.at_ acc.flatten).1))) := by
                rw [flS_go (Classical.not_not.1 h8) (by omega)]; rw [flL_some hx82]; have ha2_ : acc = layB v.ep (v.l.drop (v.flushed).toNat) := by rw [hac, List.take_of_length_le (by omega)]
                rw [← ha2_]; rw [fl1_set h91]; exact fl2_err h91
              exact ⟨_, _, by rw [hE_], by rw [hE_]; exact hd86, by rw [hE_]; exact hd96, by rw [hE_]; exact hH100⟩
            · -- not: (setA d 2 n x81.at_ acc.flatten).1 ≠ 0
              refine wp_skip ?_
              refine t_norm (hK75 _ _ ?_)
              refine wp_seq_k fun K101 hK101 => ?_
              refine wp_seq_k fun K102 hK102 => ?_
              refine c_region ?_
              refine s_op (o_move (v := (.pointer (some ⟨sb, 0, none⟩))) e38_0 ?_)
              refine s_op (o_nilCheck rfl ?_)
              refine s_op (o_fieldAddr (k := 5) (fun _ => by kernel_rfl) rfl ?_)
              refine s_op (o_load1 (v := (.pointer (some ⟨db, 0, none⟩))) Tryz.underlying25 rfl rfl hH88 (seg_sub 4 rfl) (CellsAt.one rfl) ?_)
              refine s_op (o_callf (vs := #[(.pointer (some ⟨db, 0, none⟩))]) ca32 rfl (args1 rfl) (dv_syN (d := (setA d 2 n x81.at_ acc.flatten).2) ((hH88.front 1 rfl).front 1 rfl).all2 hd86 ((few_setA hf (by omega)).ok (by omega)) (by simp only [syN_len, svD_len, setA_la, saveS_len, flL_len, dvwr_len]; exact h4) (setA_lk hlk)) ?_)
              rintro _ w107 ⟨sg103, rfl, hd104, hX105⟩
              refine ⟨_, rfl, ?_⟩
              have hH106 : Has E w107 [sg103, [Hp.one pb (.cells #[(.bool (((setA d 2 n x81.at_ acc.flatten).2).syN).p.off), (.bool (((setA d 2 n x81.at_ acc.flatten).2).syN).p.armed), (.int .i64 (((setA d 2 n x81.at_ acc.flatten).2).syN).p.left), (.int .i64 (((setA d 2 n x81.at_ acc.flatten).2).syN).p.uses)] 145 (0, 0))], [Hp.one ab (.cells #[(.pointer (some ⟨db, 0, none⟩)), (.int .i64 2), (.int .i64 n)] 265 (0, 0))], ha, [Hp.one sb (.cells #[(.int .i64 v.seq), (.int .i64 v.ep), (.int .i64 v.hcut), (.int .i64 v.st), (.int .i64 v.mrk), (.pointer (some ⟨db, 0, none⟩)), (.pointer (some ⟨ab, 0, none⟩)), x29, (.int .i64 v.tail), (.int .i64 v.flushed), (.int .i64 v.res), (.bool v.cut), (.int .i64 v.err)] 175 (0, 0))], s30, R] := hX105.of_all2
              refine s_op (o_assign (v := (.int .i64 (((setA d 2 n x81.at_ acc.flatten).2).syE))) rfl ?_)
              refine s_nil ?_
              refine t_norm (hK102 _ _ ?_)
              refine wp_seq_k fun K108 hK108 => ?_
              refine c_region ?_
              refine s_op (o_move (v := (.int .i64 (((setA d 2 n x81.at_ acc.flatten).2).syE))) rfl ?_)
              refine s_op (o_neq (a := ((setA d 2 n x81.at_ acc.flatten).2).syE) (b := 0) rfl rfl ?_)
              refine s_nil ?_
              refine t_norm (hK108 _ _ ?_)
              refine c_cond rfl (fun h109 => ?_) (fun h109 => ?_)
              · -- ((setA d 2 n x81.at_ acc.flatten).2).syE ≠ 0
                refine wp_seq_k fun K110 hK110 => ?_
                refine c_region ?_
                refine s_op (o_move (v := (.pointer (some ⟨sb, 0, none⟩))) e38_0 ?_)
                refine s_op (o_move (v := (.int .i64 (((setA d 2 n x81.at_ acc.flatten).2).syE))) rfl ?_)
                have hH111 : Has E w107 [([Hp.one sb (.cells #[(.int .i64 v.seq), (.int .i64 v.ep), (.int .i64 v.hcut), (.int .i64 v.st), (.int .i64 v.mrk), (.pointer (some ⟨db, 0, none⟩)), (.pointer (some ⟨ab, 0, none⟩)), x29, (.int .i64 v.tail), (.int .i64 v.flushed), (.int .i64 v.res), (.bool v.cut), (.int .i64 v.err)] 175 (0, 0))] ++ s30), sg103, [Hp.one pb (.cells #[(.bool (((setA d 2 n x81.at_ acc.flatten).2).syN).p.off), (.bool (((setA d 2 n x81.at_ acc.flatten).2).syN).p.armed), (.int .i64 (((setA d 2 n x81.at_ acc.flatten).2).syN).p.left), (.int .i64 (((setA d 2 n x81.at_ acc.flatten).2).syN).p.uses)] 145 (0, 0))], [Hp.one ab (.cells #[(.pointer (some ⟨db, 0, none⟩)), (.int .i64 2), (.int .i64 n)] 265 (0, 0))], ha, R] := Has.cl2 ((hH106.front 5 rfl).front 5 rfl)
                have hd112 : StmAt db ab sb ([Hp.one sb (.cells #[(.int .i64 v.seq), (.int .i64 v.ep), (.int .i64 v.hcut), (.int .i64 v.st), (.int .i64 v.mrk), (.pointer (some ⟨db, 0, none⟩)), (.pointer (some ⟨ab, 0, none⟩)), x29, (.int .i64 v.tail), (.int .i64 v.flushed), (.int .i64 v.res), (.bool v.cut), (.int .i64 v.err)] 175 (0, 0))] ++ s30) v := StmAt.mk (v := v) f31
                refine s_op (o_callf (vs := #[(.pointer (some ⟨sb, 0, none⟩)), (.int .i64 (((setA d 2 n x81.at_ acc.flatten).2).syE))]) ca109 rfl (args2 rfl rfl) (sstays_c (db := db) (ab := ab) (v := v) (e_ := ((setA d 2 n x81.at_ acc.flatten).2).syE) hH111.all1 hd112) ?_)
                rintro _ w117 ⟨sg113, rfl, hd114, hX115⟩
                refine ⟨_, rfl, ?_⟩
                have hH116 : Has E w117 [sg113, sg103, [Hp.one pb (.cells #[(.bool (((setA d 2 n x81.at_ acc.flatten).2).syN).p.off), (.bool (((setA d 2 n x81.at_ acc.flatten).2).syN).p.armed), (.int .i64 (((setA d 2 n x81.at_ acc.flatten).2).syN).p.left), (.int .i64 (((setA d 2 n x81.at_ acc.flatten).2).syN).p.uses)] 145 (0, 0))], [Hp.one ab (.cells #[(.pointer (some ⟨db, 0, none⟩)), (.int .i64 2), (.int .i64 n)] 265 (0, 0))], ha, R] := hX115.of_all1
                refine s_op (o_assign (v := (.int .i64 (((setA d 2 n x81.at_ acc.flatten).2).syE))) rfl ?_)
                refine s_nil ?_
                refine t_norm (hK110 _ _ ?_)
                refine wp_ret ?_
                refine t_ret (t_ret (c_ret1 Tryz.results23  (v := (.int .i64 (((setA d 2 n x81.at_ acc.flatten).2).syE))) rfl ?_))
                have hH118 : Has E w117 [sg103, [Hp.one pb (.cells #[(.bool (((setA d 2 n x81.at_ acc.flatten).2).syN).p.off), (.bool (((setA d 2 n x81.at_ acc.flatten).2).syN).p.armed), (.int .i64 (((setA d 2 n x81.at_ acc.flatten).2).syN).p.left), (.int .i64 (((setA d 2 n x81.at_ acc.flatten).2).syN).p.uses)] 145 (0, 0))], [Hp.one ab (.cells #[(.pointer (some ⟨db, 0, none⟩)), (.int .i64 2), (.int .i64 n)] 265 (0, 0))], sg113, R] := (((((hH116.front 5 rfl).front 1 rfl).front 4 rfl).front 4 rfl).front 4 rfl).first 5 rfl
                have hE_ : (flS n d v mark) = ((((setA d 2 n x81.at_ acc.flatten).2).syE), ((setA d 2 n x81.at_ acc.flatten).2).syN, (stays v (((setA d 2 n x81.at_ acc.flatten).2).syE))) := by
                  rw [flS_go (Classical.not_not.1 h8) (by omega)]; rw [flL_some hx82]; have ha2_ : acc = layB v.ep (v.l.drop (v.flushed).toNat) := by rw [hac, List.take_of_length_le (by omega)]
                  rw [← ha2_]; rw [fl1_sy (Classical.not_not.1 h91) h109]; exact fl2_err h109
                exact ⟨_, _, by rw [hE_], by rw [hE_]; exact hd104, by rw [hE_]; exact hd114, by rw [hE_]; exact hH118⟩
              · -- not: ((setA d 2 n x81.at_ acc.flatten).2).syE ≠ 0
                refine wp_skip ?_
                refine t_norm (hK101 _ _ ?_)
                refine c_region ?_
                refine s_op (o_move (v := (.pointer (some ⟨sb, 0, none⟩))) e38_0 ?_)
                refine s_op (o_move (v := (.pointer (some ⟨sb, 0, none⟩))) e38_0 ?_)
                refine s_op (o_nilCheck rfl ?_)
                refine s_op (o_fieldAddr (k := 7) (fun _ => by kernel_rfl) rfl ?_)
                refine s_op (o_load1 (v := x29) Tryz.underlying37 rfl rfl hH106 (seg_sub 4 rfl) (CellsAt.one rfl) ?_)
                refine s_op (o_lenS Tryz.underlying37 rfl f31.sl ?_)
                refine s_op (o_nilCheck rfl ?_)
                refine s_op (o_fieldAddr (k := 9) (fun _ => by kernel_rfl) rfl ?_)
                refine s_eff (o_store1 (c' := #[(.int .i64 v.seq), (.int .i64 v.ep), (.int .i64 v.hcut), (.int .i64 v.st), (.int .i64 v.mrk), (.pointer (some ⟨db, 0, none⟩)), (.pointer (some ⟨ab, 0, none⟩)), x29, (.int .i64 v.tail), (.int .i64 ((v.l.length : Nat) : Int)), (.int .i64 v.res), (.bool v.cut), (.int .i64 v.err)]) ti3 rfl rfl rfl (by simp) rfl (hH106.front 4 rfl) fun w119 hH120 => ?_)
                refine s_nil ?_
                refine t_norm (hK19 _ _ ?_)
                refine wp_seq_k fun K121 hK121 => ?_
                refine wp_seq_k fun K122 hK122 => ?_
                refine c_region ?_
                refine s_op (o_move (v := (.int .i64 mark)) e38_1 ?_)
                refine s_op (o_move (v := (.pointer (some ⟨sb, 0, none⟩))) e38_0 ?_)
                refine s_op (o_nilCheck rfl ?_)
                refine s_op (o_fieldAddr (k := 0) (fun _ => by kernel_rfl) rfl ?_)
                refine s_op (o_fieldAddr (k := 0) (fun _ => by kernel_rfl) rfl ?_)
                refine s_op (o_fieldAddr (k := 4) (fun _ => by kernel_rfl) rfl ?_)
                refine s_op (o_load1 (v := (.int .i64 v.mrk)) Tryz.underlying3 rfl rfl hH120 (seg_sub 0 rfl) (CellsAt.one rfl) ?_)
                refine s_op (o_eql (a := mark) (b := v.mrk) rfl rfl ?_)
                refine s_nil ?_
                refine t_norm (hK122 _ _ ?_)
                refine c_cond rfl (fun h123 => ?_) (fun h123 => ?_)
                · -- mark = v.mrk
                  refine wp_seq_k fun K124 hK124 => ?_
                  refine c_region ?_
                  refine s_op (o_assign (v := (.int .i64 0)) rfl ?_)
                  refine s_nil ?_
                  refine t_norm (hK124 _ _ ?_)
                  refine wp_ret ?_
                  refine t_ret (c_ret1 Tryz.results23  (v := (.int .i64 0)) rfl ?_)
                  have hH125 : Has E w119 [([Hp.one sb (.cells #[(.int .i64 v.seq), (.int .i64 v.ep), (.int .i64 v.hcut), (.int .i64 v.st), (.int .i64 v.mrk), (.pointer (some ⟨db, 0, none⟩)), (.pointer (some ⟨ab, 0, none⟩)), x29, (.int .i64 v.tail), (.int .i64 ((v.l.length : Nat) : Int)), (.int .i64 v.res), (.bool v.cut), (.int .i64 v.err)] 175 (0, 0))] ++ s30), sg103, [Hp.one pb (.cells #[(.bool (((setA d 2 n x81.at_ acc.flatten).2).syN).p.off), (.bool (((setA d 2 n x81.at_ acc.flatten).2).syN).p.armed), (.int .i64 (((setA d 2 n x81.at_ acc.flatten).2).syN).p.left), (.int .i64 (((setA d 2 n x81.at_ acc.flatten).2).syN).p.uses)] 145 (0, 0))], [Hp.one ab (.cells #[(.pointer (some ⟨db, 0, none⟩)), (.int .i64 2), (.int .i64 n)] 265 (0, 0))], ha, R] := Has.cl2 ((hH120.front 5 rfl).front 1 rfl)
                  have hd126 : StmAt db ab sb ([Hp.one sb (.cells #[(.int .i64 v.seq), (.int .i64 v.ep), (.int .i64 v.hcut), (.int .i64 v.st), (.int .i64 v.mrk), (.pointer (some ⟨db, 0, none⟩)), (.pointer (some ⟨ab, 0, none⟩)), x29, (.int .i64 v.tail), (.int .i64 ((v.l.length : Nat) : Int)), (.int .i64 v.res), (.bool v.cut), (.int .i64 v.err)] 175 (0, 0))] ++ s30) (⟨v.seq, v.ep, v.hcut, v.st, v.mrk, v.l, v.tail, ((v.l.length : Nat) : Int), v.res, v.cut, v.err⟩ : StmS) := StmAt.mk (v := (⟨v.seq, v.ep, v.hcut, v.st, v.mrk, v.l, v.tail, ((v.l.length : Nat) : Int), v.res, v.cut, v.err⟩ : StmS)) f31
                  have hH127 : Has E w119 [sg103, [Hp.one pb (.cells #[(.bool (((setA d 2 n x81.at_ acc.flatten).2).syN).p.off), (.bool (((setA d 2 n x81.at_ acc.flatten).2).syN).p.armed), (.int .i64 (((setA d 2 n x81.at_ acc.flatten).2).syN).p.left), (.int .i64 (((setA d 2 n x81.at_ acc.flatten).2).syN).p.uses)] 145 (0, 0))], [Hp.one ab (.cells #[(.pointer (some ⟨db, 0, none⟩)), (.int .i64 2), (.int .i64 n)] 265 (0, 0))], ([Hp.one sb (.cells #[(.int .i64 v.seq), (.int .i64 v.ep), (.int .i64 v.hcut), (.int .i64 v.st), (.int .i64 v.mrk), (.pointer (some ⟨db, 0, none⟩)), (.pointer (some ⟨ab, 0, none⟩)), x29, (.int .i64 v.tail), (.int .i64 ((v.l.length : Nat) : Int)), (.int .i64 v.res), (.bool v.cut), (.int .i64 v.err)] 175 (0, 0))] ++ s30), R] := (((((hH125.front 5 rfl).front 1 rfl).front 4 rfl).front 4 rfl).front 4 rfl).first 5 rfl
                  have hE_ : (flS n d v mark) = (0, ((setA d 2 n x81.at_ acc.flatten).2).syN, (⟨v.seq, v.ep, v.hcut, v.st, v.mrk, v.l, v.tail, ((v.l.length : Nat) : Int), v.res, v.cut, v.err⟩ : StmS)) := by
                    rw [flS_go (Classical.not_not.1 h8) (by omega)]; rw [flL_some hx82]; have ha2_ : acc = layB v.ep (v.l.drop (v.flushed).toNat) := by rw [hac, List.take_of_length_le (by omega)]
                    rw [← ha2_]; rw [fl1_ok (Classical.not_not.1 h91) (Classical.not_not.1 h109)]; exact fl2_same rfl h123
                  exact ⟨_, _, by rw [hE_], by rw [hE_]; exact hd104, by rw [hE_]; exact hd126, by rw [hE_]; exact hH127⟩
                · -- not: mark = v.mrk
                  refine wp_skip ?_
                  refine t_norm (hK121 _ _ ?_)
                  refine wp_seq_k fun K128 hK128 => ?_
                  refine c_region ?_
                  refine s_op (o_move (v := (.pointer (some ⟨sb, 0, none⟩))) e38_0 ?_)
                  refine s_op (o_nilCheck rfl ?_)
                  refine s_op (o_fieldAddr (k := 0) (fun _ => by kernel_rfl) rfl ?_)
                  refine s_op (o_fieldAddr (k := 0) (fun _ => by kernel_rfl) rfl ?_)
                  refine s_op (o_loadN (cs := [(.int .i64 v.seq), (.int .i64 v.ep), (.int .i64 v.hcut), (.int .i64 v.st), (.int .i64 v.mrk)]) Tryz.underlying23 rfl ti23 rfl hH120 (seg_sub 0 rfl) (CellsAt.one rfl) ?_)
                  refine s_op (o_alloc (cs := #[(.int .i64 0), (.int .i64 0), (.int .i64 0), (.int .i64 0), (.int .i64 0)]) ti23 rfl hH120 fun b129 w130 hH131 => ?_)
                  refine s_eff (o_storeN (vs := [(.int .i64 v.seq), (.int .i64 v.ep), (.int .i64 v.hcut), (.int .i64 v.st), (.int .i64 v.mrk)]) (c' := #[(.int .i64 v.seq), (.int .i64 v.ep), (.int .i64 v.hcut), (.int .i64 v.st), (.int .i64 v.mrk)]) ti23 rfl rfl rfl rfl (by intro u hu; simp only [List.mem_cons, List.not_mem_nil, or_false] at hu; rcases hu with rfl | rfl | rfl | rfl | rfl <;> first | rfl) (by simp) (by kernel_rfl) (hH131.front 0 rfl) fun w132 hH133 => ?_)
                  refine s_nil ?_
                  refine t_norm (hK128 _ _ ?_)
                  refine wp_seq_k fun K134 hK134 => ?_
                  refine c_region ?_
                  refine s_op (o_move (v := (.int .i64 mark)) e38_1 ?_)
                  refine s_op (o_fieldAddr (k := 4) (fun _ => by kernel_rfl) rfl ?_)
                  refine s_eff (o_store1 (c' := #[(.int .i64 v.seq), (.int .i64 v.ep), (.int .i64 v.hcut), (.int .i64 v.st), (.int .i64 mark)]) ti3 rfl rfl rfl (by simp) rfl (hH133.front 0 rfl) fun w135 hH136 => ?_)
                  refine s_nil ?_
                  refine t_norm (hK134 _ _ ?_)
                  refine wp_seq_k fun K137 hK137 => ?_
                  refine c_region ?_
                  refine s_op (o_move (v := (.pointer (some ⟨sb, 0, none⟩))) e38_0 ?_)
                  refine s_op (o_loadN (cs := [(.int .i64 v.seq), (.int .i64 v.ep), (.int .i64 v.hcut), (.int .i64 v.st), (.int .i64 mark)]) Tryz.underlying23 rfl ti23 rfl hH136 (seg_sub 0 rfl) (CellsAt.one rfl) ?_)
                  have hH138 : Has E w135 [([Hp.one sb (.cells #[(.int .i64 v.seq), (.int .i64 v.ep), (.int .i64 v.hcut), (.int .i64 v.st), (.int .i64 v.mrk), (.pointer (some ⟨db, 0, none⟩)), (.pointer (some ⟨ab, 0, none⟩)), x29, (.int .i64 v.tail), (.int .i64 ((v.l.length : Nat) : Int)), (.int .i64 v.res), (.bool v.cut), (.int .i64 v.err)] 175 (0, 0))] ++ s30), [Hp.one b129 (.cells #[(.int .i64 v.seq), (.int .i64 v.ep), (.int .i64 v.hcut), (.int .i64 v.st), (.int .i64 mark)] 23 (0, 0))], sg103, [Hp.one pb (.cells #[(.bool (((setA d 2 n x81.at_ acc.flatten).2).syN).p.off), (.bool (((setA d 2 n x81.at_ acc.flatten).2).syN).p.armed), (.int .i64 (((setA d 2 n x81.at_ acc.flatten).2).syN).p.left), (.int .i64 (((setA d 2 n x81.at_ acc.flatten).2).syN).p.uses)] 145 (0, 0))], [Hp.one ab (.cells #[(.pointer (some ⟨db, 0, none⟩)), (.int .i64 2), (.int .i64 n)] 265 (0, 0))], ha, R] := Has.cl2 ((hH136.front 6 rfl).front 2 rfl)
                  have hd139 : StmAt db ab sb ([Hp.one sb (.cells #[(.int .i64 v.seq), (.int .i64 v.ep), (.int .i64 v.hcut), (.int .i64 v.st), (.int .i64 v.mrk), (.pointer (some ⟨db, 0, none⟩)), (.pointer (some ⟨ab, 0, none⟩)), x29, (.int .i64 v.tail), (.int .i64 ((v.l.length : Nat) : Int)), (.int .i64 v.res), (.bool v.cut), (.int .i64 v.err)] 175 (0, 0))] ++ s30) (⟨v.seq, v.ep, v.hcut, v.st, v.mrk, v.l, v.tail, ((v.l.length : Nat) : Int), v.res, v.cut, v.err⟩ : StmS) := StmAt.mk (v := (⟨v.seq, v.ep, v.hcut, v.st, v.mrk, v.l, v.tail, ((v.l.length : Nat) : Int), v.res, v.cut, v.err⟩ : StmS)) f31
                  refine s_op (o_callf (vs := #[(.pointer (some ⟨sb, 0, none⟩)), (.agg #[(.int .i64 v.seq), (.int .i64 v.ep), (.int .i64 v.hcut), (.int .i64 v.st), (.int .i64 mark)])]) ca110 rfl (args2 rfl rfl) (ssave_c (d := ((setA d 2 n x81.at_ acc.flatten).2).syN) (v := (⟨v.seq, v.ep, v.hcut, v.st, v.mrk, v.l, v.tail, ((v.l.length : Nat) : Int), v.res, v.cut, v.err⟩ : StmS)) (((hH138.front 4 rfl).front 4 rfl).front 4 rfl).all4 hd104 hd139 (few_setA hf (by omega)).use (by omega) (syN_lo (setA_lk hlk)) (by simp only [syN_len, svD_len, setA_la, saveS_len, flL_len, dvwr_len]; exact h4) (hg.mono (seg_sub 2 rfl)) (h := (Hd.mk v.seq v.ep v.hcut v.st mark))) ?_)
                  rintro _ w146 ⟨sg140, ss142, rfl, hd141, hs143, hX144⟩
                  refine ⟨_, rfl, ?_⟩
                  have hH145 : Has E w146 [sg140, [Hp.one pb (.cells #[(.bool ((saveS (((setA d 2 n x81.at_ acc.flatten).2).syN) (⟨v.seq, v.ep, v.hcut, v.st, v.mrk, v.l, v.tail, ((v.l.length : Nat) : Int), v.res, v.cut, v.err⟩ : StmS) (Hd.mk v.seq v.ep v.hcut v.st mark)).2.1).p.off), (.bool ((saveS (((setA d 2 n x81.at_ acc.flatten).2).syN) (⟨v.seq, v.ep, v.hcut, v.st, v.mrk, v.l, v.tail, ((v.l.length : Nat) : Int), v.res, v.cut, v.err⟩ : StmS) (Hd.mk v.seq v.ep v.hcut v.st mark)).2.1).p.armed), (.int .i64 ((saveS (((setA d 2 n x81.at_ acc.flatten).2).syN) (⟨v.seq, v.ep, v.hcut, v.st, v.mrk, v.l, v.tail, ((v.l.length : Nat) : Int), v.res, v.cut, v.err⟩ : StmS) (Hd.mk v.seq v.ep v.hcut v.st mark)).2.1).p.left), (.int .i64 ((saveS (((setA d 2 n x81.at_ acc.flatten).2).syN) (⟨v.seq, v.ep, v.hcut, v.st, v.mrk, v.l, v.tail, ((v.l.length : Nat) : Int), v.res, v.cut, v.err⟩ : StmS) (Hd.mk v.seq v.ep v.hcut v.st mark)).2.1).p.uses)] 145 (0, 0))], [Hp.one ab (.cells #[(.pointer (some ⟨db, 0, none⟩)), (.int .i64 2), (.int .i64 n)] 265 (0, 0))], ss142, [Hp.one b129 (.cells #[(.int .i64 v.seq), (.int .i64 v.ep), (.int .i64 v.hcut), (.int .i64 v.st), (.int .i64 mark)] 23 (0, 0))], ha, R] := hX144.of_all4
                  refine s_op (o_assign (v := (.int .i64 ((saveS (((setA d 2 n x81.at_ acc.flatten).2).syN) (⟨v.seq, v.ep, v.hcut, v.st, v.mrk, v.l, v.tail, ((v.l.length : Nat) : Int), v.res, v.cut, v.err⟩ : StmS) (Hd.mk v.seq v.ep v.hcut v.st mark)).1))) rfl ?_)
                  refine s_nil ?_
                  refine t_norm (hK137 _ _ ?_)
                  refine wp_ret ?_
                  refine c_ret1 Tryz.results23  (v := (.int .i64 ((saveS (((setA d 2 n x81.at_ acc.flatten).2).syN) (⟨v.seq, v.ep, v.hcut, v.st, v.mrk, v.l, v.tail, ((v.l.length : Nat) : Int), v.res, v.cut, v.err⟩ : StmS) (Hd.mk v.seq v.ep v.hcut v.st mark)).1))) rfl ?_
                  have hH147 : Has E w146 [sg140, [Hp.one pb (.cells #[(.bool ((saveS (((setA d 2 n x81.at_ acc.flatten).2).syN) (⟨v.seq, v.ep, v.hcut, v.st, v.mrk, v.l, v.tail, ((v.l.length : Nat) : Int), v.res, v.cut, v.err⟩ : StmS) (Hd.mk v.seq v.ep v.hcut v.st mark)).2.1).p.off), (.bool ((saveS (((setA d 2 n x81.at_ acc.flatten).2).syN) (⟨v.seq, v.ep, v.hcut, v.st, v.mrk, v.l, v.tail, ((v.l.length : Nat) : Int), v.res, v.cut, v.err⟩ : StmS) (Hd.mk v.seq v.ep v.hcut v.st mark)).2.1).p.armed), (.int .i64 ((saveS (((setA d 2 n x81.at_ acc.flatten).2).syN) (⟨v.seq, v.ep, v.hcut, v.st, v.mrk, v.l, v.tail, ((v.l.length : Nat) : Int), v.res, v.cut, v.err⟩ : StmS) (Hd.mk v.seq v.ep v.hcut v.st mark)).2.1).p.left), (.int .i64 ((saveS (((setA d 2 n x81.at_ acc.flatten).2).syN) (⟨v.seq, v.ep, v.hcut, v.st, v.mrk, v.l, v.tail, ((v.l.length : Nat) : Int), v.res, v.cut, v.err⟩ : StmS) (Hd.mk v.seq v.ep v.hcut v.st mark)).2.1).p.uses)] 145 (0, 0))], [Hp.one ab (.cells #[(.pointer (some ⟨db, 0, none⟩)), (.int .i64 2), (.int .i64 n)] 265 (0, 0))], ss142, R] := (((((hH145.front 6 rfl).front 4 rfl).front 4 rfl).front 4 rfl).front 4 rfl).first 5 rfl
                  have hE_ : (flS n d v mark) = ((saveS (((setA d 2 n x81.at_ acc.flatten).2).syN) (⟨v.seq, v.ep, v.hcut, v.st, v.mrk, v.l, v.tail, ((v.l.length : Nat) : Int), v.res, v.cut, v.err⟩ : StmS) (Hd.mk v.seq v.ep v.hcut v.st mark)).1, (saveS (((setA d 2 n x81.at_ acc.flatten).2).syN) (⟨v.seq, v.ep, v.hcut, v.st, v.mrk, v.l, v.tail, ((v.l.length : Nat) : Int), v.res, v.cut, v.err⟩ : StmS) (Hd.mk v.seq v.ep v.hcut v.st mark)).2.1, (saveS (((setA d 2 n x81.at_ acc.flatten).2).syN) (⟨v.seq, v.ep, v.hcut, v.st, v.mrk, v.l, v.tail, ((v.l.length : Nat) : Int), v.res, v.cut, v.err⟩ : StmS) (Hd.mk v.seq v.ep v.hcut v.st mark)).2.2) := by
                    rw [flS_go (Classical.not_not.1 h8) (by omega)]; rw [flL_some hx82]; have ha2_ : acc = layB v.ep (v.l.drop (v.flushed).toNat) := by rw [hac, List.take_of_length_le (by omega)]
                    rw [← ha2_]; rw [fl1_ok (Classical.not_not.1 h91) (Classical.not_not.1 h109)]; exact fl2_save rfl h123
                  exact ⟨_, _, by rw [hE_], by rw [hE_]; exact hd141, by rw [hE_]; exact hs143, by rw [hE_]; exact hH147⟩
        · -- not: 0 < ((v.l.length : Int) - v.flushed)
          refine wp_skip ?_
          refine t_norm (hK19 _ _ ?_)
          refine wp_seq_k fun K148 hK148 => ?_
          refine wp_seq_k fun K149 hK149 => ?_
          refine c_region ?_
          refine s_op (o_move (v := (.int .i64 mark)) rfl ?_)
          refine s_op (o_move (v := (.pointer (some ⟨sb, 0, none⟩))) rfl ?_)
          refine s_op (o_nilCheck rfl ?_)
          obtain ⟨x150, s151, rfl, f152⟩ := hs
          have hH153 : Has E w23 [[Hp.one sb (.cells #[(.int .i64 v.seq), (.int .i64 v.ep), (.int .i64 v.hcut), (.int .i64 v.st), (.int .i64 v.mrk), (.pointer (some ⟨db, 0, none⟩)), (.pointer (some ⟨ab, 0, none⟩)), x150, (.int .i64 v.tail), (.int .i64 v.flushed), (.int .i64 v.res), (.bool v.cut), (.int .i64 v.err)] 175 (0, 0))], s151, sg, [Hp.one pb (.cells #[(.bool d.p.off), (.bool d.p.armed), (.int .i64 d.p.left), (.int .i64 d.p.uses)] 145 (0, 0))], [Hp.one ab (.cells #[(.pointer (some ⟨db, 0, none⟩)), (.int .i64 2), (.int .i64 n)] 265 (0, 0))], R] := Has.op2 (hH22.front 3 rfl)
          refine s_op (o_fieldAddr (k := 0) (fun _ => by kernel_rfl) rfl ?_)
          refine s_op (o_fieldAddr (k := 0) (fun _ => by kernel_rfl) rfl ?_)
          refine s_op (o_fieldAddr (k := 4) (fun _ => by kernel_rfl) rfl ?_)
          refine s_op (o_load1 (v := (.int .i64 v.mrk)) Tryz.underlying3 rfl rfl hH153 (seg_sub 0 rfl) (CellsAt.one rfl) ?_)
          refine s_op (o_eql (a := mark) (b := v.mrk) rfl rfl ?_)
          refine s_nil ?_
          refine t_norm (hK149 _ _ ?_)
          refine c_cond rfl (fun h154 => ?_) (fun h154 => ?_)
          · -- mark = v.mrk
            refine wp_seq_k fun K155 hK155 => ?_
            refine c_region ?_
            refine s_op (o_assign (v := (.int .i64 0)) rfl ?_)
            refine s_nil ?_
            refine t_norm (hK155 _ _ ?_)
            refine wp_ret ?_
            refine t_ret (c_ret1 Tryz.results23  (v := (.int .i64 0)) rfl ?_)
            have hH156 : Has E w23 [([Hp.one sb (.cells #[(.int .i64 v.seq), (.int .i64 v.ep), (.int .i64 v.hcut), (.int .i64 v.st), (.int .i64 v.mrk), (.pointer (some ⟨db, 0, none⟩)), (.pointer (some ⟨ab, 0, none⟩)), x150, (.int .i64 v.tail), (.int .i64 v.flushed), (.int .i64 v.res), (.bool v.cut), (.int .i64 v.err)] 175 (0, 0))] ++ s151), sg, [Hp.one pb (.cells #[(.bool d.p.off), (.bool d.p.armed), (.int .i64 d.p.left), (.int .i64 d.p.uses)] 145 (0, 0))], [Hp.one ab (.cells #[(.pointer (some ⟨db, 0, none⟩)), (.int .i64 2), (.int .i64 n)] 265 (0, 0))], R] := Has.cl2 ((hH153.front 1 rfl).front 1 rfl)
            have hd157 : StmAt db ab sb ([Hp.one sb (.cells #[(.int .i64 v.seq), (.int .i64 v.ep), (.int .i64 v.hcut), (.int .i64 v.st), (.int .i64 v.mrk), (.pointer (some ⟨db, 0, none⟩)), (.pointer (some ⟨ab, 0, none⟩)), x150, (.int .i64 v.tail), (.int .i64 v.flushed), (.int .i64 v.res), (.bool v.cut), (.int .i64 v.err)] 175 (0, 0))] ++ s151) v := StmAt.mk (v := v) f152
            have hH158 : Has E w23 [sg, [Hp.one pb (.cells #[(.bool d.p.off), (.bool d.p.armed), (.int .i64 d.p.left), (.int .i64 d.p.uses)] 145 (0, 0))], [Hp.one ab (.cells #[(.pointer (some ⟨db, 0, none⟩)), (.int .i64 2), (.int .i64 n)] 265 (0, 0))], ([Hp.one sb (.cells #[(.int .i64 v.seq), (.int .i64 v.ep), (.int .i64 v.hcut), (.int .i64 v.st), (.int .i64 v.mrk), (.pointer (some ⟨db, 0, none⟩)), (.pointer (some ⟨ab, 0, none⟩)), x150, (.int .i64 v.tail), (.int .i64 v.flushed), (.int .i64 v.res), (.bool v.cut), (.int .i64 v.err)] 175 (0, 0))] ++ s151), R] := (((((hH156.front 4 rfl).front 1 rfl).front 4 rfl).front 4 rfl).front 4 rfl).first 5 rfl
            have hE_ : (flS n d v mark) = (0, d, v) := by
              rw [flS_go (Classical.not_not.1 h8) (by omega)]; rw [flL_none (by omega)]; exact fl2_same rfl h154
            exact ⟨_, _, by rw [hE_], by rw [hE_]; exact hd, by rw [hE_]; exact hd157, by rw [hE_]; exact hH158⟩
          · -- not: mark = v.mrk
            refine wp_skip ?_
            refine t_norm (hK148 _ _ ?_)
            refine wp_seq_k fun K159 hK159 => ?_
            refine c_region ?_
            refine s_op (o_move (v := (.pointer (some ⟨sb, 0, none⟩))) rfl ?_)
            refine s_op (o_nilCheck rfl ?_)
            refine s_op (o_fieldAddr (k := 0) (fun _ => by kernel_rfl) rfl ?_)
            refine s_op (o_fieldAddr (k := 0) (fun _ => by kernel_rfl) rfl ?_)
            refine s_op (o_loadN (cs := [(.int .i64 v.seq), (.int .i64 v.ep), (.int .i64 v.hcut), (.int .i64 v.st), (.int .i64 v.mrk)]) Tryz.underlying23 rfl ti23 rfl hH153 (seg_sub 0 rfl) (CellsAt.one rfl) ?_)
            refine s_op (o_alloc (cs := #[(.int .i64 0), (.int .i64 0), (.int .i64 0), (.int .i64 0), (.int .i64 0)]) ti23 rfl hH153 fun b160 w161 hH162 => ?_)
            refine s_eff (o_storeN (vs := [(.int .i64 v.seq), (.int .i64 v.ep), (.int .i64 v.hcut), (.int .i64 v.st), (.int .i64 v.mrk)]) (c' := #[(.int .i64 v.seq), (.int .i64 v.ep), (.int .i64 v.hcut), (.int .i64 v.st), (.int .i64 v.mrk)]) ti23 rfl rfl rfl rfl (by intro u hu; simp only [List.mem_cons, List.not_mem_nil, or_false] at hu; rcases hu with rfl | rfl | rfl | rfl | rfl <;> first | rfl) (by simp) (by kernel_rfl) (hH162.front 0 rfl) fun w163 hH164 => ?_)
            refine s_nil ?_
            refine t_norm (hK159 _ _ ?_)
            refine wp_seq_k fun K165 hK165 => ?_
            refine c_region ?_
            refine s_op (o_move (v := (.int .i64 mark)) rfl ?_)
            refine s_op (o_fieldAddr (k := 4) (fun _ => by kernel_rfl) rfl ?_)
            refine s_eff (o_store1 (c' := #[(.int .i64 v.seq), (.int .i64 v.ep), (.int .i64 v.hcut), (.int .i64 v.st), (.int .i64 mark)]) ti3 rfl rfl rfl (by simp) rfl (hH164.front 0 rfl) fun w166 hH167 => ?_)
            refine s_nil ?_
            refine t_norm (hK165 _ _ ?_)
            refine wp_seq_k fun K168 hK168 => ?_
            refine c_region ?_
            refine s_op (o_move (v := (.pointer (some ⟨sb, 0, none⟩))) rfl ?_)
            refine s_op (o_loadN (cs := [(.int .i64 v.seq), (.int .i64 v.ep), (.int .i64 v.hcut), (.int .i64 v.st), (.int .i64 mark)]) Tryz.underlying23 rfl ti23 rfl hH167 (seg_sub 0 rfl) (CellsAt.one rfl) ?_)
            have hH169 : Has E w166 [([Hp.one sb (.cells #[(.int .i64 v.seq), (.int .i64 v.ep), (.int .i64 v.hcut), (.int .i64 v.st), (.int .i64 v.mrk), (.pointer (some ⟨db, 0, none⟩)), (.pointer (some ⟨ab, 0, none⟩)), x150, (.int .i64 v.tail), (.int .i64 v.flushed), (.int .i64 v.res), (.bool v.cut), (.int .i64 v.err)] 175 (0, 0))] ++ s151), [Hp.one b160 (.cells #[(.int .i64 v.seq), (.int .i64 v.ep), (.int .i64 v.hcut), (.int .i64 v.st), (.int .i64 mark)] 23 (0, 0))], sg, [Hp.one pb (.cells #[(.bool d.p.off), (.bool d.p.armed), (.int .i64 d.p.left), (.int .i64 d.p.uses)] 145 (0, 0))], [Hp.one ab (.cells #[(.pointer (some ⟨db, 0, none⟩)), (.int .i64 2), (.int .i64 n)] 265 (0, 0))], R] := Has.cl2 ((hH167.front 2 rfl).front 2 rfl)
            have hd170 : StmAt db ab sb ([Hp.one sb (.cells #[(.int .i64 v.seq), (.int .i64 v.ep), (.int .i64 v.hcut), (.int .i64 v.st), (.int .i64 v.mrk), (.pointer (some ⟨db, 0, none⟩)), (.pointer (some ⟨ab, 0, none⟩)), x150, (.int .i64 v.tail), (.int .i64 v.flushed), (.int .i64 v.res), (.bool v.cut), (.int .i64 v.err)] 175 (0, 0))] ++ s151) v := StmAt.mk (v := v) f152
            refine s_op (o_callf (vs := #[(.pointer (some ⟨sb, 0, none⟩)), (.agg #[(.int .i64 v.seq), (.int .i64 v.ep), (.int .i64 v.hcut), (.int .i64 v.st), (.int .i64 mark)])]) ca110 rfl (args2 rfl rfl) (ssave_c (d := d) (v := v) (((hH169.front 4 rfl).front 4 rfl).front 4 rfl).all4 hd hd170 hf (by omega) hlk h4 (hg.mono (seg_sub 1 rfl)) (h := (Hd.mk v.seq v.ep v.hcut v.st mark))) ?_)
            rintro _ w177 ⟨sg171, ss173, rfl, hd172, hs174, hX175⟩
            refine ⟨_, rfl, ?_⟩
            have hH176 : Has E w177 [sg171, [Hp.one pb (.cells #[(.bool ((saveS d v (Hd.mk v.seq v.ep v.hcut v.st mark)).2.1).p.off), (.bool ((saveS d v (Hd.mk v.seq v.ep v.hcut v.st mark)).2.1).p.armed), (.int .i64 ((saveS d v (Hd.mk v.seq v.ep v.hcut v.st mark)).2.1).p.left), (.int .i64 ((saveS d v (Hd.mk v.seq v.ep v.hcut v.st mark)).2.1).p.uses)] 145 (0, 0))], [Hp.one ab (.cells #[(.pointer (some ⟨db, 0, none⟩)), (.int .i64 2), (.int .i64 n)] 265 (0, 0))], ss173, [Hp.one b160 (.cells #[(.int .i64 v.seq), (.int .i64 v.ep), (.int .i64 v.hcut), (.int .i64 v.st), (.int .i64 mark)] 23 (0, 0))], R] := hX175.of_all4
            refine s_op (o_assign (v := (.int .i64 ((saveS d v (Hd.mk v.seq v.ep v.hcut v.st mark)).1))) rfl ?_)
            refine s_nil ?_
            refine t_norm (hK168 _ _ ?_)
            refine wp_ret ?_
            refine c_ret1 Tryz.results23  (v := (.int .i64 ((saveS d v (Hd.mk v.seq v.ep v.hcut v.st mark)).1))) rfl ?_
            have hH178 : Has E w177 [sg171, [Hp.one pb (.cells #[(.bool ((saveS d v (Hd.mk v.seq v.ep v.hcut v.st mark)).2.1).p.off), (.bool ((saveS d v (Hd.mk v.seq v.ep v.hcut v.st mark)).2.1).p.armed), (.int .i64 ((saveS d v (Hd.mk v.seq v.ep v.hcut v.st mark)).2.1).p.left), (.int .i64 ((saveS d v (Hd.mk v.seq v.ep v.hcut v.st mark)).2.1).p.uses)] 145 (0, 0))], [Hp.one ab (.cells #[(.pointer (some ⟨db, 0, none⟩)), (.int .i64 2), (.int .i64 n)] 265 (0, 0))], ss173, R] := (((((hH176.front 5 rfl).front 4 rfl).front 4 rfl).front 4 rfl).front 4 rfl).first 5 rfl
            have hE_ : (flS n d v mark) = ((saveS d v (Hd.mk v.seq v.ep v.hcut v.st mark)).1, (saveS d v (Hd.mk v.seq v.ep v.hcut v.st mark)).2.1, (saveS d v (Hd.mk v.seq v.ep v.hcut v.st mark)).2.2) := by
              rw [flS_go (Classical.not_not.1 h8) (by omega)]; rw [flL_none (by omega)]; exact fl2_save rfl h154
            exact ⟨_, _, by rw [hE_], by rw [hE_]; exact hd172, by rw [hE_]; exact hs174, by rw [hE_]; exact hH178⟩
end Go.Q
namespace Go.Q
theorem fits_of {ep cut pl ab : Int} {f : Fr} (h : fitsF ep cut pl ab f = true) : rightS f = true ∧ f.pl = pl ∧ ab < f.gsn ∧ f.ep ≤ ep ∧ (f.pl < cut ∨ f.ep = ep) := by
  unfold fitsF at h
  rw [Bool.and_eq_true] at h
  exact ⟨h.1, of_decide_eq_true h.2⟩
theorem chain_ok (ep cut : Int) : ∀ (n : Nat) (s : Bs) (pl ab : Int), LaidE pl ((chainS ep cut n s pl ab).1.map entF) (chainS ep cut n s pl ab).2 ∧ (∀ f ∈ (chainS ep cut n s pl ab).1, rightS f = true ∧ ab < f.gsn) ∧ RisesE ((chainS ep cut n s pl ab).1.map entF)
  | 0, s, pl, ab => ⟨rfl, (fun f hf => by cases hf), List.Pairwise.nil⟩
  | n + 1, s, pl, ab => by
    rw [chainS]
    split
    · rename_i h
      rw [Bool.and_eq_true] at h
      obtain ⟨f1, f2, f3, f4, f5⟩ := fits_of h.2
      have hN := oN_yes h.1
      obtain ⟨i1, i2, i3⟩ := chain_ok ep cut n (s.drop (oN s).toNat) (pl + oN s) (oF s).gsn
      refine ⟨⟨f2, ?_⟩, ?_, ?_⟩
      · rw [hN] at i1; rw [hN]; exact i1
      · intro f hf
        rcases List.mem_cons.1 hf with rfl | hf
        · exact ⟨f1, f3⟩
        · have := i2 f hf; exact ⟨this.1, by omega⟩
      · refine List.Pairwise.cons ?_ i3
        intro e he
        obtain ⟨f, hf, rfl⟩ := List.mem_map.1 he
        exact (i2 f hf).2
    · exact ⟨rfl, (fun f hf => by cases hf), List.Pairwise.nil⟩
theorem le_last {v : StmS} (hr : RisesE v.l) : ∀ e ∈ v.l, e.gsn ≤ lastV v := by
  intro e he
  obtain ⟨i, hi⟩ := List.mem_iff_getElem?.1 he
  obtain ⟨hlt, hx⟩ := List.getElem?_eq_some_iff.1 hi
  have hl : v.l[v.l.length - 1]? = some v.l[v.l.length - 1] := List.getElem?_eq_getElem (by omega)
  rw [last_some hl]
  rcases Nat.lt_or_ge i (v.l.length - 1) with g | g
  · have := List.pairwise_iff_getElem.1 hr i (v.l.length - 1) hlt (by omega) g
    rw [hx] at this; omega
  · have : i = v.l.length - 1 := by omega
    subst this
    rw [hx]; omega
theorem risesE_snoc {l : List LEnt} {x : LEnt} (h : RisesE l) (hx : ∀ e ∈ l, e.gsn < x.gsn) : RisesE (l ++ [x]) := by
  refine List.pairwise_append.2 ⟨h, List.pairwise_singleton _ _, ?_⟩
  intro a ha b hb
  rw [List.mem_singleton.1 hb]; exact hx a ha
section
variable {n : Int} {v : StmS}
theorem fmV_ok {h : Hd} (hn : 1 ≤ n ∧ n ≤ 4094) (hr : hdR h = true) (h0 : h.st = 0) : StmOk n (fmV h) := by
  obtain ⟨b1, b2, b3, b4, b5⟩ := of_decide_eq_true hr
  refine ⟨hn, b5, b4, b3, b2, b1, ?_, ?_, ?_, (fun e he => by cases he), (fun e he => by cases he), List.Pairwise.nil, ⟨Int.le_refl (0 : Int), Int.le_refl (0 : Int)⟩⟩
  · show (0 : Int) ≤ h.st + n * 64; omega
  · exact ⟨Int.le_refl (0 : Int), by show (0 : Int) ≤ n * 64 - (0 - h.st); omega⟩
  · exact h0.symm
theorem layS_ok (h : StmOk n v) {g : Int} {s : Bs} (hg : lastV v < g) (hg2 : g ≤ 4611686018427387903) (hs : s.length ≤ 200) (hf : 25 + (s.length : Int) ≤ freeV n v) : StmOk n (layS v g s) := by
  have hl := last_le h
  have hfr : freeV n v = n * 64 - (v.tail - v.st) - v.res := rfl
  have hr := h.res
  refine ⟨h.num, h.mrk, h.st, h.cut, h.ep, h.seq, ?_, ?_, h.lay.snoc g s, ?_, ?_, ?_, ?_⟩
  · show v.tail + (25 + (s.length : Int)) ≤ v.st + n * 64; omega
  · exact ⟨hr.1, by show v.res ≤ n * 64 - (v.tail + (25 + (s.length : Int)) - v.st); omega⟩
  · intro e he
    rcases List.mem_append.1 he with q | q
    · exact h.gsn e q
    · rw [List.mem_singleton.1 q]; exact ⟨by show 0 ≤ g; omega, hg2⟩
  · intro e he
    rcases List.mem_append.1 he with q | q
    · exact h.dat e q
    · rw [List.mem_singleton.1 q]; exact hs
  · refine risesE_snoc h.rise fun e he => ?_
    have := le_last h.rise e he
    show e.gsn < g; omega
  · have := h.fl
    exact ⟨this.1, by show v.flushed ≤ ((v.l ++ [_]).length : Int); rw [List.length_append, List.length_singleton]; omega⟩
theorem apS_ok (h : StmOk n v) (g : Int) (s : Bs) : StmOk n (apS n v g s) := by
  unfold apS
  split
  · rename_i h0
    unfold apE at h0
    split at h0
    · rename_i h1; exact absurd h0 h1
    · rename_i h1
      split at h0
      · cases h0
      · obtain ⟨_, h2, h3, h4⟩ := mayL_zero (Classical.not_not.1 h1)
        exact layS_ok h h2 h3 (by omega) (by omega)
  · exact h
theorem stays_ok (h : StmOk n v) (e : Int) : StmOk n (stays v e) := by
  unfold stays
  split
  · exact ⟨h.num, h.mrk, h.st, h.cut, h.ep, h.seq, h.tail, h.res, h.lay, h.gsn, h.dat, h.rise, h.fl⟩
  · exact h
theorem flushed_ok (h : StmOk n v) : StmOk n { v with flushed := v.l.length } :=
  ⟨h.num, h.mrk, h.st, h.cut, h.ep, h.seq, h.tail, h.res, h.lay, h.gsn, h.dat, h.rise, ⟨by show (0 : Int) ≤ v.l.length; omega, Int.le_refl _⟩⟩
/-- another head, with the same start -/
theorem put_ok (h : StmOk n v) {x : Hd} (hr : hdR x = true) (hs : x.st = v.st) : StmOk n (v.put x) := by
  obtain ⟨b1, b2, b3, b4, b5⟩ := of_decide_eq_true hr
  refine ⟨h.num, b5, b4, b3, b2, b1, ?_, ?_, ?_, h.gsn, h.dat, h.rise, h.fl⟩
  · show v.tail ≤ x.st + n * 64; rw [hs]; exact h.tail
  · show 0 ≤ v.res ∧ v.res ≤ n * 64 - (v.tail - x.st); rw [hs]; exact h.res
  · show LaidE x.st v.l v.tail; rw [hs]; exact h.lay
theorem svD_hd {d : Dv} {x : Int} {h : Hd} (h0 : (svD d x h).1 = 0) : svOk h ∧ (svD d x h).2.1 = hdUp h := by
  unfold svD at h0 ⊢
  split
  · rename_i g; rw [if_pos g] at h0; cases h0
  rename_i g
  rw [if_neg g] at h0
  split
  · rename_i g2; rw [if_pos g2] at h0; exact absurd h0 g2
  rename_i g2
  rw [if_neg g2] at h0
  split
  · rename_i g3; rw [if_pos g3] at h0; exact absurd h0 g3
  rename_i g3
  rw [if_neg g3] at h0
  split
  · rename_i g4; rw [if_pos g4] at h0; exact absurd h0 g4
  · exact ⟨Classical.not_not.1 g, rfl⟩
theorem saveS_ok (h : StmOk n v) {d : Dv} {x : Hd} (hs : x.st = v.st) : StmOk n (saveS d v x).2.2 := by
  refine stays_ok ?_ _
  split
  · rename_i h0
    obtain ⟨g1, g2⟩ := svD_hd h0
    rw [g2]
    exact put_ok h g1.up hs
  · exact h
theorem flL_ok (h : StmOk n v) (d : Dv) : StmOk n (flL n d v).2.2 := by
  unfold flL
  split
  · exact h
  · unfold fl1
    split
    · exact stays_ok h _
    · split
      · exact stays_ok h _
      · exact flushed_ok h
theorem flS_ok (h : StmOk n v) (d : Dv) (mark : Int) : StmOk n (flS n d v mark).2.2 := by
  unfold flS
  split
  · exact h
  · split
    · exact h
    · unfold fl2
      split
      · exact flL_ok h d
      · split
        · exact flL_ok h d
        · exact saveS_ok (flL_ok h d) rfl
theorem opS_ok {d : Dv} (hn : 1 ≤ n ∧ n ≤ 4094) (h64 : Full64 d.la) (hlk : LoOk d.lo d.la.length) (hln : (d.la.length : Int) = n + 2) (h : opE d n = 0) : StmOk n (opS d n) := by
  have hld : ldE d.p d.la 0 = 0 := by
    unfold opE at h
    split at h
    · rename_i g; exact absurd h g
    · rename_i g; exact Classical.not_not.1 g
  obtain ⟨b1, b2, b3, b4, b5⟩ := of_decide_eq_true (ld_R hld)
  obtain ⟨c1, c2, c3⟩ := chain_count (ldH d.p d.la 0).ep (ldH d.p d.la 0).cut ((ringB d n (ldH d.p d.la 0).st).length + 1) (ringB d n (ldH d.p d.la 0).st) (ldH d.p d.la 0).st (-1)
  obtain ⟨k1, k2, k3⟩ := chain_ok (ldH d.p d.la 0).ep (ldH d.p d.la 0).cut ((ringB d n (ldH d.p d.la 0).st).length + 1) (ringB d n (ldH d.p d.la 0).st) (ldH d.p d.la 0).st (-1)
  have hrl := ringB_len (at_ := (ldH d.p d.la 0).st) h64 hlk hn.1 hln
  have hc2 : (opC d n).2 ≤ (ldH d.p d.la 0).st + ((n * 64).toNat : Int) := by rw [← hrl]; exact c2
  have hx : ∀ e ∈ (opS d n).l, ∃ f, rightS f = true ∧ e = entF f := by
    intro e he
    obtain ⟨f, hf, rfl⟩ := List.mem_map.1 he
    exact ⟨f, (k2 f hf).1, rfl⟩
  refine ⟨hn, b5, b4, b3, b2, b1, ?_, ?_, k1, ?_, ?_, k3, ?_⟩
  · show (opC d n).2 ≤ (ldH d.p d.la 0).st + n * 64
    omega
  · exact ⟨Int.le_refl (0 : Int), by show (0 : Int) ≤ n * 64 - ((opC d n).2 - (ldH d.p d.la 0).st); omega⟩
  · intro e he
    obtain ⟨f, hr, rfl⟩ := hx e he
    have := rightS_of hr
    exact ⟨this.2.2.2.2.1, this.2.2.2.2.2.1⟩
  · intro e he
    obtain ⟨f, hr, rfl⟩ := hx e he
    exact (rightS_of hr).2.2.2.2.2.2
  · exact ⟨by show (0 : Int) ≤ ((opC d n).1.length : Int); omega, by show ((opC d n).1.length : Int) ≤ (((opC d n).1.map entF).length : Int); rw [List.length_map]; omega⟩
end
end Go.Q
namespace Go.Q
section
variable {n : Int} {d : Dv} {v : StmS} {k : Nat}
theorem flL_lo (hl : LoOk d.lo d.la.length) : LoOk (flL n d v).2.1.lo (flL n d v).2.1.la.length := by
  unfold flL
  split
  · exact hl
  · unfold fl1
    split
    · exact setA_lk hl
    · split
      · exact syN_lo (setA_lk hl)
      · exact syN_lo (setA_lk hl)
theorem flS_lo (hl : LoOk d.lo d.la.length) (m : Int) : LoOk (flS n d v m).2.1.lo (flS n d v m).2.1.la.length := by
  unfold flS
  split
  · exact hl
  · split
    · exact hl
    · unfold fl2
      split
      · exact flL_lo hl
      · split
        · exact flL_lo hl
        · exact saveS_lo (flL_lo hl)
theorem wrs_lo : ∀ (g : Grp) (d : Dv), LoOk d.lo d.la.length → LoOk (wrs d g).2.lo (wrs d g).2.la.length
  | [], _, h => h
  | (n, s) :: t, d, h => by
    have e : wrs d ((n, s) :: t) = if d.wrE n s = 0 then wrs (d.wr n s) t else (d.wrE n s, d.wr n s) := rfl
    have h1 : LoOk (d.wr n s).lo (d.wr n s).la.length := h.write _ _ _
    rw [e]
    split
    · exact wrs_lo t _ h1
    · exact h1
theorem fmS_lo (hl : LoOk d.lo d.la.length) : LoOk (fmS d).2.2.lo (fmS d).2.2.la.length := by
  unfold fmS
  split
  · exact wrs_lo _ _ hl
  · exact svD_lo (wrs_lo _ _ hl)
theorem few_fmS (hf : Few d.p k) : Few (fmS d).2.2.p (k + d.la.length + 2) := by
  have h1 := few_wrs (fmtG d.la.length) d hf
  rw [fmtG_len] at h1
  unfold fmS
  split
  · exact h1.mono (by omega)
  · exact few_svD h1
end
end Go.Q
namespace Go.Q
def s8d0 : Dv := ⟨Pw.mk false false 0 0, List.replicate 6 blankS, []⟩
def s8d1 : Dv := (fmS s8d0).2.2
def s8v1 : StmS := fmV (fmS s8d0).2.1
def s8v2 : StmS := apS 4 s8v1 1 [97]
def s8v3 : StmS := apS 4 s8v2 2 [98, 99]
def s8d2 : Dv := (flS 4 s8d1 s8v3 2).2.1
def s8v4 : StmS := (flS 4 s8d1 s8v3 2).2.2
def s8v5 : StmS := apS 4 s8v4 5 [100]
def s8d3 : Dv := s8d2.cr []
def s8v6 : StmS := opS s8d3 4
theorem s8_f : (fmS s8d0).1 = 0 := by decide +kernel
theorem s8_h : (fmS s8d0).2.1 = ⟨1, 1, 0, 0, 0⟩ := by decide +kernel
theorem s8_a : apE 4 s8v1 1 [97] = 0 := by decide +kernel
theorem s8_b : apE 4 s8v2 2 [98, 99] = 0 := by decide +kernel
theorem s8_c : (flS 4 s8d1 s8v3 2).1 = 0 := by decide +kernel
theorem s8_o : opE s8d3 4 = 0 := by decide +kernel
theorem s8_l : s8v6.l.drop (posE s8v6.l 0).toNat = [⟨1, 0, [97]⟩, ⟨2, 26, [98, 99]⟩] := by decide +kernel
theorem s8_t : lastV s8v6 = 2 := by decide +kernel
theorem s8_on : s8d0.p.off = false ∧ s8d3.p.off = false := by decide +kernel
theorem s8_64 : Full64 s8d0.la ∧ Full64 s8d1.la ∧ Full64 s8d3.la := by unfold Full64; decide +kernel
theorem s8_n : s8d0.la.length = 6 ∧ s8d1.la.length = 6 ∧ s8d2.la.length = 6 ∧ s8d3.la.length = 6 := by decide +kernel
end Go.Q
namespace Go.Q
theorem s8_k1 : StmOk 4 s8v1 := fmV_ok ⟨by decide, by decide⟩ (by rw [s8_h]; decide +kernel) (by rw [s8_h])
theorem s8_k2 : StmOk 4 s8v2 := apS_ok s8_k1 _ _
theorem s8_k3 : StmOk 4 s8v3 := apS_ok s8_k2 _ _
theorem s8_k4 : StmOk 4 s8v4 := flS_ok s8_k3 _ _
theorem s8_k6 : StmOk 4 s8v6 := opS_ok ⟨by decide, by decide⟩ s8_64.2.2 (LoOk.nil _) (by rw [s8_n.2.2.2]; decide) s8_o
theorem s8_lk1 : LoOk s8d1.lo s8d1.la.length := fmS_lo (LoOk.nil _)
theorem s8_lk2 : LoOk s8d2.lo s8d2.la.length := flS_lo s8_lk1 _
theorem s8_f1 : Few s8d1.p 8 := few_fmS (d := s8d0) Few.new
end Go.Q
namespace Go.Q
theorem S_beq' (a b : List UInt8) : ((⟨a.toArray⟩ : ByteArray).toList == (⟨b.toArray⟩ : ByteArray).toList) = decide (a = b) := by
  rw [bytes_toList, bytes_toList]
  by_cases h : a = b
  · subst h; simp
  · rw [decide_eq_false h]; simpa using h
theorem int_beq' (a b : Int) : (a == b) = decide (a = b) := by
  by_cases h : a = b
  · subst h; simp
  · rw [decide_eq_false h]; simpa using h
theorem part1 {P : Program} {t : TypeId} {d : TypeDesc} (ht : P.underlying t = some d) (hd : aggB d = false) {xs : Array Value} {o : Nat} {v : Value} (hv : xs[o]? = some v) (w : World) : (part t xs o).run P w = .ok v w := by
  unfold part
  rw [Sem.run_bind, run_isAgg ht, hd]
  simp [hv]
theorem eqC_nil {P : Program} {d : Nat} {xs ys : Array Value} {w : World} : (Op.eqFields d xs ys []).run P w = .ok true w := rfl
theorem eqC_cons {P : Program} {d : Nat} {xs ys : Array Value} {f : Field} {fs : List Field} {a b : Value} {r r' : Bool} {w : World} {ft fo : Nat} (h : (f.type, f.offset, f.name == "_") = (ft, fo, false)) (ha : (part ft xs fo).run P w = .ok a w) (hb : (part ft ys fo).run P w = .ok b w)
    (he : (Op.equalIn d ft a b).run P w = .ok r w) (hk : (Op.eqFields d xs ys fs).run P w = .ok r' w) : (Op.eqFields d xs ys (f :: fs)).run P w = .ok (r && r') w := by
  simp only [Prod.mk.injEq] at h
  obtain ⟨rfl, rfl, hn⟩ := h
  have hn' : f.name ≠ "_" := by simpa using hn
  rw [Op.eqFields, if_pos hn']
  simp only [Sem.run_bind, ha, hb, he, Result.andThen_ok]
  cases r
  · simp
  · simpa using hk
theorem eqC_fields {P : Program} {d : Nat} {xs ys : Array Value} {r : Bool} {w : World} {l : List Field} {m : List (Nat × Nat × Bool)} (hf : l.map (fun f => (f.type, f.offset, f.name == "_")) = m) (h : ∀ l : List Field, l.map (fun f => (f.type, f.offset, f.name == "_")) = m → (Op.eqFields d xs ys l).run P w = .ok r w) :
    (Op.eqFields d xs ys l).run P w = .ok r w := h l hf
theorem eq_int {P : Program} {t : TypeId} {k' : IntKind} (h : P.underlying t = some (.int k')) (d : Nat) (k : IntKind) (a b : Int) (w : World) : (Op.equalIn (d + 1) t (.int k a) (.int k b)).run P w = .ok (decide (a = b)) w := by rw [run_equalIn_int w d t _ _ _ _ h, int_beq']
theorem eq_str {P : Program} {t : TypeId} (h : P.underlying t = some .string) (d : Nat) (a b : List UInt8) (w : World) : (Op.equalIn (d + 1) t (S a) (S b)).run P w = .ok (decide (a = b)) w := by
  unfold S; rw [run_equalIn_string w d t _ _ h, S_beq']
end Go.Q
namespace Go.Q
open Go.Proofs
set_option linter.unusedVariables false
set_option maxRecDepth 100000
def eqv42 (a0 : Int) (a1 : Int) (a2 : List UInt8) (b0 : Int) (b1 : Int) (b2 : List UInt8) : Bool := (decide (a0 = b0) && (decide (a1 = b1) && (decide (a2 = b2) && true)))
theorem eqT42 (d : Nat) (w : World) (a0 : Int) (a1 : Int) (a2 : List UInt8) (b0 : Int) (b1 : Int) (b2 : List UInt8) : (Op.equalIn (d + 2) 42 (.agg #[(.int .i64 a0), (.int .i64 a1), (S a2)]) (.agg #[(.int .i64 b0), (.int .i64 b1), (S b2)])).run Tryz.prog w = .ok (eqv42 a0 a1 a2 b0 b1 b2) w := by
  rw [run_equalIn_struct w _ 42 _ _ (by kernel_rfl) (by kernel_rfl)]
  refine eqC_fields (m := [(3, 0, false), (3, 1, false), (9, 2, false)]) (by kernel_rfl) fun l hl => ?_
  obtain ⟨f0, l0, rfl, h0, hl⟩ := List.map_eq_cons_iff.1 hl
  refine eqC_cons (ft := 3) (fo := 0) (a := (.int .i64 a0)) (b := (.int .i64 b0)) h0 (part1 Tryz.underlying3 rfl (by kernel_rfl) w) (part1 Tryz.underlying3 rfl (by kernel_rfl) w) (eq_int Tryz.underlying3 (d + 0) _ _ _ w) ?_
  obtain ⟨f1, l1, rfl, h1, hl⟩ := List.map_eq_cons_iff.1 hl
  refine eqC_cons (ft := 3) (fo := 1) (a := (.int .i64 a1)) (b := (.int .i64 b1)) h1 (part1 Tryz.underlying3 rfl (by kernel_rfl) w) (part1 Tryz.underlying3 rfl (by kernel_rfl) w) (eq_int Tryz.underlying3 (d + 0) _ _ _ w) ?_
  obtain ⟨f2, l2, rfl, h2, hl⟩ := List.map_eq_cons_iff.1 hl
  refine eqC_cons (ft := 9) (fo := 2) (a := (S a2)) (b := (S b2)) h2 (part1 Tryz.underlying9 rfl (by kernel_rfl) w) (part1 Tryz.underlying9 rfl (by kernel_rfl) w) (eq_str Tryz.underlying9 (d + 0) _ _ w) ?_
  obtain rfl := List.map_eq_nil_iff.1 hl
  exact eqC_nil
theorem o_eql42 {ρ : Operand → Value} {w : World} {K : Value → World → Prop} {dst : Option Tmp} {T : TypeId} {pos : String} {after : Array Edge} {g : Option (Nat × Bool)} {u : TypeId} {x y : Operand} (a0 : Int) (a1 : Int) (a2 : List UInt8) (b0 : Int) (b1 : Int) (b2 : List UInt8) (hx : ρ x = .agg #[(.int .i64 a0), (.int .i64 a1), (S a2)]) (hy : ρ y = .agg #[(.int .i64 b0), (.int .i64 b1), (S b2)]) (h : K (.bool ((eqv42 a0 a1 a2 b0 b1 b2))) w) :
    OK Tryz.prog ⟨dst, .binOp .eql 42 x y u, T, pos, after, g⟩ ρ w K :=
  o_eqx hx hy (run_eqGuard_agg w _ _ _ _ _ _ (by kernel_rfl)) rfl (eqT42 (9998) w a0 a1 a2 b0 b1 b2) h
def eqv23 (a0 : Int) (a1 : Int) (a2 : Int) (a3 : Int) (a4 : Int) (b0 : Int) (b1 : Int) (b2 : Int) (b3 : Int) (b4 : Int) : Bool := (decide (a0 = b0) && (decide (a1 = b1) && (decide (a2 = b2) && (decide (a3 = b3) && (decide (a4 = b4) && true)))))
theorem eqT23 (d : Nat) (w : World) (a0 : Int) (a1 : Int) (a2 : Int) (a3 : Int) (a4 : Int) (b0 : Int) (b1 : Int) (b2 : Int) (b3 : Int) (b4 : Int) : (Op.equalIn (d + 2) 23 (.agg #[(.int .i64 a0), (.int .i64 a1), (.int .i64 a2), (.int .i64 a3), (.int .i64 a4)]) (.agg #[(.int .i64 b0), (.int .i64 b1), (.int .i64 b2), (.int .i64 b3), (.int .i64 b4)])).run Tryz.prog w = .ok (eqv23 a0 a1 a2 a3 a4 b0 b1 b2 b3 b4) w := by
  rw [run_equalIn_struct w _ 23 _ _ (by kernel_rfl) (by kernel_rfl)]
  refine eqC_fields (m := [(3, 0, false), (3, 1, false), (3, 2, false), (3, 3, false), (3, 4, false)]) (by kernel_rfl) fun l hl => ?_
  obtain ⟨f0, l0, rfl, h0, hl⟩ := List.map_eq_cons_iff.1 hl
  refine eqC_cons (ft := 3) (fo := 0) (a := (.int .i64 a0)) (b := (.int .i64 b0)) h0 (part1 Tryz.underlying3 rfl (by kernel_rfl) w) (part1 Tryz.underlying3 rfl (by kernel_rfl) w) (eq_int Tryz.underlying3 (d + 0) _ _ _ w) ?_
  obtain ⟨f1, l1, rfl, h1, hl⟩ := List.map_eq_cons_iff.1 hl
  refine eqC_cons (ft := 3) (fo := 1) (a := (.int .i64 a1)) (b := (.int .i64 b1)) h1 (part1 Tryz.underlying3 rfl (by kernel_rfl) w) (part1 Tryz.underlying3 rfl (by kernel_rfl) w) (eq_int Tryz.underlying3 (d + 0) _ _ _ w) ?_
  obtain ⟨f2, l2, rfl, h2, hl⟩ := List.map_eq_cons_iff.1 hl
  refine eqC_cons (ft := 3) (fo := 2) (a := (.int .i64 a2)) (b := (.int .i64 b2)) h2 (part1 Tryz.underlying3 rfl (by kernel_rfl) w) (part1 Tryz.underlying3 rfl (by kernel_rfl) w) (eq_int Tryz.underlying3 (d + 0) _ _ _ w) ?_
  obtain ⟨f3, l3, rfl, h3, hl⟩ := List.map_eq_cons_iff.1 hl
  refine eqC_cons (ft := 3) (fo := 3) (a := (.int .i64 a3)) (b := (.int .i64 b3)) h3 (part1 Tryz.underlying3 rfl (by kernel_rfl) w) (part1 Tryz.underlying3 rfl (by kernel_rfl) w) (eq_int Tryz.underlying3 (d + 0) _ _ _ w) ?_
  obtain ⟨f4, l4, rfl, h4, hl⟩ := List.map_eq_cons_iff.1 hl
  refine eqC_cons (ft := 3) (fo := 4) (a := (.int .i64 a4)) (b := (.int .i64 b4)) h4 (part1 Tryz.underlying3 rfl (by kernel_rfl) w) (part1 Tryz.underlying3 rfl (by kernel_rfl) w) (eq_int Tryz.underlying3 (d + 0) _ _ _ w) ?_
  obtain rfl := List.map_eq_nil_iff.1 hl
  exact eqC_nil
theorem o_eql23 {ρ : Operand → Value} {w : World} {K : Value → World → Prop} {dst : Option Tmp} {T : TypeId} {pos : String} {after : Array Edge} {g : Option (Nat × Bool)} {u : TypeId} {x y : Operand} (a0 : Int) (a1 : Int) (a2 : Int) (a3 : Int) (a4 : Int) (b0 : Int) (b1 : Int) (b2 : Int) (b3 : Int) (b4 : Int) (hx : ρ x = .agg #[(.int .i64 a0), (.int .i64 a1), (.int .i64 a2), (.int .i64 a3), (.int .i64 a4)]) (hy : ρ y = .agg #[(.int .i64 b0), (.int .i64 b1), (.int .i64 b2), (.int .i64 b3), (.int .i64 b4)]) (h : K (.bool ((eqv23 a0 a1 a2 a3 a4 b0 b1 b2 b3 b4))) w) :
    OK Tryz.prog ⟨dst, .binOp .eql 23 x y u, T, pos, after, g⟩ ρ w K :=
  o_eqx hx hy (run_eqGuard_agg w _ _ _ _ _ _ (by kernel_rfl)) rfl (eqT23 (9998) w a0 a1 a2 a3 a4 b0 b1 b2 b3 b4) h
end Go.Q
namespace Go.Q
open Go.Proofs
set_option linter.unusedVariables false
set_option maxRecDepth 100000
attribute [local irreducible] wpList OK Code.wp
set_option maxHeartbeats 4000000 in
theorem awake8_c {E w : World} {R : List Hp} (hH : Has E w [R]) (hg : CellsAt R 0 0 nibV) :
    Calls Tryz.prog 11 #[] w fun e w' => e = .returned (.bool true) ∧ Has E w' [R] := by
  refine c_enter (args := []) Tryz.func11 rfl Tryz.ntmps11 (by simp) ?_
  refine wp_seq_k fun K1 hK1 => ?_
  refine c_region ?_
  refine s_op (o_assign (v := (.bool false)) rfl ?_)
  refine s_nil ?_
  refine t_norm (hK1 _ _ ?_)
  refine wp_seq_k fun K2 hK2 => ?_
  refine c_region ?_
  refine s_op (o_callf (vs := #[(.pointer none), (.int .i64 6)]) ca12 rfl (args2 rfl rfl) (new_nil hH.all (n := 6) (by decide)) ?_)
  rintro _ w9 ⟨db3, pb4, sg5, rfl, hd6, hX7⟩
  refine ⟨_, rfl, ?_⟩
  have hH8 : Has E w9 [sg5, [Hp.one pb4 (.cells #[(.bool (Pw.mk false false 0 0).off), (.bool (Pw.mk false false 0 0).armed), (.int .i64 (Pw.mk false false 0 0).left), (.int .i64 (Pw.mk false false 0 0).uses)] 145 (0, 0))], R] := hX7.of_all2
  have hH10 : Has E w9 [sg5, [Hp.one pb4 (.cells #[(.bool s8d0.p.off), (.bool s8d0.p.armed), (.int .i64 s8d0.p.left), (.int .i64 s8d0.p.uses)] 145 (0, 0))], R] := hH8
  have hd11 : DevAt pb4 sg5 db3 s8d0.la s8d0.lo := hd6
  refine s_op (o_assign (v := (.pointer (some ⟨db3, 0, none⟩))) rfl ?_)
  refine s_nil ?_
  refine t_norm (hK2 _ _ ?_)
  refine wp_seq_k fun K12 hK12 => ?_
  refine c_region ?_
  refine s_op (o_move (v := (.pointer (some ⟨db3, 0, none⟩))) rfl ?_)
  refine s_op (o_callf (vs := #[(.pointer (some ⟨db3, 0, none⟩))]) ca31 rfl (args1 rfl) (sformat_c (d := s8d0) ((hH10.front 1 rfl).front 1 rfl).all2 hd11 Few.new (by omega) (LoOk.nil _) (by rw [s8_n.1]; decide) (by rw [s8_n.1]; decide) s8_on.1 (hg.mono (seg_sub 0 rfl)) s8_f) ?_)
  rintro _ w21 ⟨sb13, ab14, sg15, ss16, rfl, hd17, hs18, hX19⟩
  refine ⟨_, rfl, ?_⟩
  have hH20 : Has E w21 [ss16, [Hp.one ab14 (.cells #[(.pointer (some ⟨db3, 0, none⟩)), (.int .i64 2), (.int .i64 (((s8d0.la.length : Nat) : Int) - 2))] 265 (0, 0))], sg15, [Hp.one pb4 (.cells #[(.bool ((fmS s8d0).2.2).p.off), (.bool ((fmS s8d0).2.2).p.armed), (.int .i64 ((fmS s8d0).2.2).p.left), (.int .i64 ((fmS s8d0).2.2).p.uses)] 145 (0, 0))], R] := hX19.of_all4
  have hH22 : Has E w21 [ss16, [Hp.one ab14 (.cells #[(.pointer (some ⟨db3, 0, none⟩)), (.int .i64 2), (.int .i64 4)] 265 (0, 0))], sg15, [Hp.one pb4 (.cells #[(.bool ((fmS s8d0).2.2).p.off), (.bool ((fmS s8d0).2.2).p.armed), (.int .i64 ((fmS s8d0).2.2).p.left), (.int .i64 ((fmS s8d0).2.2).p.uses)] 145 (0, 0))], R] := by have h_ := hH20; rw [show ((s8d0.la.length : Nat) : Int) - 2 = 4 from by rw [s8_n.1]; rfl] at h_; exact h_
  have hH23 : Has E w21 [ss16, [Hp.one ab14 (.cells #[(.pointer (some ⟨db3, 0, none⟩)), (.int .i64 2), (.int .i64 4)] 265 (0, 0))], sg15, [Hp.one pb4 (.cells #[(.bool s8d1.p.off), (.bool s8d1.p.armed), (.int .i64 s8d1.p.left), (.int .i64 s8d1.p.uses)] 145 (0, 0))], R] := hH22
  have hd24 : DevAt pb4 sg15 db3 s8d1.la s8d1.lo := hd17
  have hd25 : StmAt db3 ab14 sb13 ss16 s8v1 := hs18
  refine s_op (o_move (v := (.tuple #[(.pointer (some ⟨sb13, 0, none⟩)), (.int .i64 (0 : Int))])) rfl ?_)
  refine s_op (o_extract (v := (.pointer (some ⟨sb13, 0, none⟩))) rfl rfl ?_)
  refine s_op (o_extract (v := (.int .i64 (0 : Int))) rfl rfl ?_)
  refine s_op (o_assign (v := (.pointer (some ⟨sb13, 0, none⟩))) rfl ?_)
  refine s_op (o_assign (v := (.int .i64 (0 : Int))) rfl ?_)
  refine s_nil ?_
  refine t_norm (hK12 _ _ ?_)
  refine wp_seq_k fun K26 hK26 => ?_
  refine c_region ?_
  refine s_op (o_move (v := (.pointer (some ⟨sb13, 0, none⟩))) rfl ?_)
  refine s_op (o_buildSlice (ps := #[(0, (S [97]))]) (cells := #[(S [97])]) Tryz.underlying46 ti9 (by decide) (parts1 rfl) (by kernel_rfl) hH23 fun b27 w28 hH29 => ?_)
  refine s_op (o_callf (vs := #[(.pointer (some ⟨sb13, 0, none⟩)), (.int .i64 1), (.slice (some ⟨b27, 0, none⟩) 1 1)]) ca30 rfl (args3 rfl rfl rfl) (sappend_c (db := db3) (ab := ab14) (v := s8v1) (g := 1) (ds := [[97]]) (n := 4) (hH29.front 1 rfl).all1 hd25 ((sl_lit (f := sV) (l := [[97]]) rfl rfl (by simp)).mono (seg_sub 0 rfl)) ((CellsAt.one rfl).mono (seg_sub 1 rfl)) s8_k1 (by decide) (by decide)) ?_)
  rintro _ w34 ⟨sg30, rfl, hd31, hX32⟩
  refine ⟨_, rfl, ?_⟩
  have hH33 : Has E w34 [sg30, [Hp.one b27 (.cells #[(S [97])] 9 (0, 0))], [Hp.one ab14 (.cells #[(.pointer (some ⟨db3, 0, none⟩)), (.int .i64 2), (.int .i64 4)] 265 (0, 0))], sg15, [Hp.one pb4 (.cells #[(.bool s8d1.p.off), (.bool s8d1.p.armed), (.int .i64 s8d1.p.left), (.int .i64 s8d1.p.uses)] 145 (0, 0))], R] := hX32.of_all1
  have hd35 : StmAt db3 ab14 sb13 sg30 s8v2 := hd31
  refine s_op (o_assign (v := (.int .i64 (apE 4 s8v1 1 [[97]].flatten))) rfl ?_)
  refine s_nil ?_
  refine t_norm (hK26 _ _ ?_)
  refine wp_seq_k fun K36 hK36 => ?_
  refine c_region ?_
  refine s_op (o_move (v := (.pointer (some ⟨sb13, 0, none⟩))) rfl ?_)
  refine s_op (o_buildSlice (ps := #[(0, (S [98])), (1, (S [99]))]) (cells := #[(S [98]), (S [99])]) Tryz.underlying46 ti9 (by decide) (parts2 rfl rfl) (by kernel_rfl) hH33 fun b37 w38 hH39 => ?_)
  refine s_op (o_callf (vs := #[(.pointer (some ⟨sb13, 0, none⟩)), (.int .i64 2), (.slice (some ⟨b37, 0, none⟩) 2 2)]) ca30 rfl (args3 rfl rfl rfl) (sappend_c (db := db3) (ab := ab14) (v := s8v2) (g := 2) (ds := [[98], [99]]) (n := 4) (hH39.front 1 rfl).all1 hd35 ((sl_lit (f := sV) (l := [[98], [99]]) rfl rfl (by simp)).mono (seg_sub 0 rfl)) ((CellsAt.one rfl).mono (seg_sub 2 rfl)) s8_k2 (by decide) (by decide)) ?_)
  rintro _ w44 ⟨sg40, rfl, hd41, hX42⟩
  refine ⟨_, rfl, ?_⟩
  have hH43 : Has E w44 [sg40, [Hp.one b37 (.cells #[(S [98]), (S [99])] 9 (0, 0))], [Hp.one b27 (.cells #[(S [97])] 9 (0, 0))], [Hp.one ab14 (.cells #[(.pointer (some ⟨db3, 0, none⟩)), (.int .i64 2), (.int .i64 4)] 265 (0, 0))], sg15, [Hp.one pb4 (.cells #[(.bool s8d1.p.off), (.bool s8d1.p.armed), (.int .i64 s8d1.p.left), (.int .i64 s8d1.p.uses)] 145 (0, 0))], R] := hX42.of_all1
  have hd45 : StmAt db3 ab14 sb13 sg40 s8v3 := hd41
  refine s_op (o_assign (v := (.int .i64 (apE 4 s8v2 2 [[98], [99]].flatten))) rfl ?_)
  refine s_nil ?_
  refine t_norm (hK36 _ _ ?_)
  refine wp_seq_k fun K46 hK46 => ?_
  refine c_region ?_
  refine s_op (o_move (v := (.pointer (some ⟨sb13, 0, none⟩))) rfl ?_)
  refine s_op (o_callf (vs := #[(.pointer (some ⟨sb13, 0, none⟩)), (.int .i64 2)]) ca23 rfl (args2 rfl rfl) (sflush_c (d := s8d1) (v := s8v3) (n := 4) (((hH43.front 3 rfl).front 5 rfl).front 5 rfl).all4 hd24 hd45 s8_f1 (by omega) s8_lk1 (by rw [s8_n.2.1]; decide) s8_64.2.1 (by rw [s8_n.2.1]; rfl) s8_k3 (hg.mono (seg_sub 2 rfl)) (mark := 2)) ?_)
  rintro _ w53 ⟨sg47, ss49, rfl, hd48, hs50, hX51⟩
  refine ⟨_, rfl, ?_⟩
  have hH52 : Has E w53 [sg47, [Hp.one pb4 (.cells #[(.bool ((flS 4 s8d1 s8v3 2).2.1).p.off), (.bool ((flS 4 s8d1 s8v3 2).2.1).p.armed), (.int .i64 ((flS 4 s8d1 s8v3 2).2.1).p.left), (.int .i64 ((flS 4 s8d1 s8v3 2).2.1).p.uses)] 145 (0, 0))], [Hp.one ab14 (.cells #[(.pointer (some ⟨db3, 0, none⟩)), (.int .i64 2), (.int .i64 4)] 265 (0, 0))], ss49, [Hp.one b37 (.cells #[(S [98]), (S [99])] 9 (0, 0))], [Hp.one b27 (.cells #[(S [97])] 9 (0, 0))], R] := hX51.of_all4
  have hH54 : Has E w53 [sg47, [Hp.one pb4 (.cells #[(.bool s8d2.p.off), (.bool s8d2.p.armed), (.int .i64 s8d2.p.left), (.int .i64 s8d2.p.uses)] 145 (0, 0))], [Hp.one ab14 (.cells #[(.pointer (some ⟨db3, 0, none⟩)), (.int .i64 2), (.int .i64 4)] 265 (0, 0))], ss49, [Hp.one b37 (.cells #[(S [98]), (S [99])] 9 (0, 0))], [Hp.one b27 (.cells #[(S [97])] 9 (0, 0))], R] := hH52
  have hd55 : DevAt pb4 sg47 db3 s8d2.la s8d2.lo := hd48
  have hd56 : StmAt db3 ab14 sb13 ss49 s8v4 := hs50
  refine s_op (o_assign (v := (.int .i64 ((flS 4 s8d1 s8v3 2).1))) rfl ?_)
  refine s_nil ?_
  refine t_norm (hK46 _ _ ?_)
  refine wp_seq_k fun K57 hK57 => ?_
  refine c_region ?_
  refine s_op (o_move (v := (.pointer (some ⟨sb13, 0, none⟩))) rfl ?_)
  refine s_op (o_buildSlice (ps := #[(0, (S [100]))]) (cells := #[(S [100])]) Tryz.underlying46 ti9 (by decide) (parts1 rfl) (by kernel_rfl) hH54 fun b58 w59 hH60 => ?_)
  refine s_op (o_callf (vs := #[(.pointer (some ⟨sb13, 0, none⟩)), (.int .i64 5), (.slice (some ⟨b58, 0, none⟩) 1 1)]) ca30 rfl (args3 rfl rfl rfl) (sappend_c (db := db3) (ab := ab14) (v := s8v4) (g := 5) (ds := [[100]]) (n := 4) (hH60.front 4 rfl).all1 hd56 ((sl_lit (f := sV) (l := [[100]]) rfl rfl (by simp)).mono (seg_sub 0 rfl)) ((CellsAt.one rfl).mono (seg_sub 3 rfl)) s8_k4 (by decide) (by decide)) ?_)
  rintro _ w65 ⟨sg61, rfl, hd62, hX63⟩
  refine ⟨_, rfl, ?_⟩
  have hH64 : Has E w65 [sg61, [Hp.one b58 (.cells #[(S [100])] 9 (0, 0))], sg47, [Hp.one pb4 (.cells #[(.bool s8d2.p.off), (.bool s8d2.p.armed), (.int .i64 s8d2.p.left), (.int .i64 s8d2.p.uses)] 145 (0, 0))], [Hp.one ab14 (.cells #[(.pointer (some ⟨db3, 0, none⟩)), (.int .i64 2), (.int .i64 4)] 265 (0, 0))], [Hp.one b37 (.cells #[(S [98]), (S [99])] 9 (0, 0))], [Hp.one b27 (.cells #[(S [97])] 9 (0, 0))], R] := hX63.of_all1
  have hd66 : StmAt db3 ab14 sb13 sg61 s8v5 := hd62
  refine s_nil ?_
  refine t_norm (hK57 _ _ ?_)
  refine wp_seq_k fun K67 hK67 => ?_
  refine c_region ?_
  refine s_op (o_move (v := (.pointer (some ⟨db3, 0, none⟩))) rfl ?_)
  refine s_op (o_callf (vs := #[(.pointer (some ⟨db3, 0, none⟩)), (.slice none 0 0)]) ca26 rfl (args2 rfl rfl) (dv_cr (d := s8d2) ((hH64.front 3 rfl).front 3 rfl).all2 hd55 s8_lk2 (keep := ([] : List Int)) (sl_nil 1)) ?_)
  rintro _ w72 ⟨sg68, rfl, hd69, hX70⟩
  refine ⟨_, rfl, ?_⟩
  have hH71 : Has E w72 [sg68, [Hp.one pb4 (.cells #[(.bool (s8d2.cr ([] : List Int)).p.off), (.bool (s8d2.cr ([] : List Int)).p.armed), (.int .i64 (s8d2.cr ([] : List Int)).p.left), (.int .i64 (s8d2.cr ([] : List Int)).p.uses)] 145 (0, 0))], sg61, [Hp.one b58 (.cells #[(S [100])] 9 (0, 0))], [Hp.one ab14 (.cells #[(.pointer (some ⟨db3, 0, none⟩)), (.int .i64 2), (.int .i64 4)] 265 (0, 0))], [Hp.one b37 (.cells #[(S [98]), (S [99])] 9 (0, 0))], [Hp.one b27 (.cells #[(S [97])] 9 (0, 0))], R] := hX70.of_all2
  have hH73 : Has E w72 [sg68, [Hp.one pb4 (.cells #[(.bool s8d3.p.off), (.bool s8d3.p.armed), (.int .i64 s8d3.p.left), (.int .i64 s8d3.p.uses)] 145 (0, 0))], sg61, [Hp.one b58 (.cells #[(S [100])] 9 (0, 0))], [Hp.one ab14 (.cells #[(.pointer (some ⟨db3, 0, none⟩)), (.int .i64 2), (.int .i64 4)] 265 (0, 0))], [Hp.one b37 (.cells #[(S [98]), (S [99])] 9 (0, 0))], [Hp.one b27 (.cells #[(S [97])] 9 (0, 0))], R] := hH71
  have hd74 : DevAt pb4 sg68 db3 s8d3.la s8d3.lo := hd69
  refine s_nil ?_
  refine t_norm (hK67 _ _ ?_)
  refine wp_seq_k fun K75 hK75 => ?_
  refine c_region ?_
  refine s_op (o_move (v := (.pointer (some ⟨db3, 0, none⟩))) rfl ?_)
  refine s_op (o_callf (vs := #[(.pointer (some ⟨db3, 0, none⟩))]) ca16 rfl (args1 rfl) (sopen_ok (d := s8d3) ((hH73.front 1 rfl).front 1 rfl).all2 hd74 (by rw [s8_n.2.2.2]; decide) (by rw [s8_n.2.2.2]; decide) s8_on.2 s8_64.2.2 rfl (hg.mono (seg_sub 5 rfl)) (show opE s8d3 (((s8d3.la.length : Nat) : Int) - 2) = 0 by rw [s8_n.2.2.2]; exact s8_o)) ?_)
  rintro _ w84 ⟨sb76, ab77, sg78, ss79, rfl, hd80, hs81, hX82⟩
  refine ⟨_, rfl, ?_⟩
  have hH83 : Has E w84 [ss79, [Hp.one ab77 (.cells #[(.pointer (some ⟨db3, 0, none⟩)), (.int .i64 2), (.int .i64 (((s8d3.la.length : Nat) : Int) - 2))] 265 (0, 0))], sg78, [Hp.one pb4 (.cells #[(.bool s8d3.p.off), (.bool s8d3.p.armed), (.int .i64 s8d3.p.left), (.int .i64 s8d3.p.uses)] 145 (0, 0))], sg61, [Hp.one b58 (.cells #[(S [100])] 9 (0, 0))], [Hp.one ab14 (.cells #[(.pointer (some ⟨db3, 0, none⟩)), (.int .i64 2), (.int .i64 4)] 265 (0, 0))], [Hp.one b37 (.cells #[(S [98]), (S [99])] 9 (0, 0))], [Hp.one b27 (.cells #[(S [97])] 9 (0, 0))], R] := hX82.of_all4
  have hH85 : Has E w84 [ss79, [Hp.one ab77 (.cells #[(.pointer (some ⟨db3, 0, none⟩)), (.int .i64 2), (.int .i64 4)] 265 (0, 0))], sg78, [Hp.one pb4 (.cells #[(.bool s8d3.p.off), (.bool s8d3.p.armed), (.int .i64 s8d3.p.left), (.int .i64 s8d3.p.uses)] 145 (0, 0))], sg61, [Hp.one b58 (.cells #[(S [100])] 9 (0, 0))], [Hp.one ab14 (.cells #[(.pointer (some ⟨db3, 0, none⟩)), (.int .i64 2), (.int .i64 4)] 265 (0, 0))], [Hp.one b37 (.cells #[(S [98]), (S [99])] 9 (0, 0))], [Hp.one b27 (.cells #[(S [97])] 9 (0, 0))], R] := by have h_ := hH83; rw [show ((s8d3.la.length : Nat) : Int) - 2 = 4 from by rw [s8_n.2.2.2]; rfl] at h_; exact h_
  have hs86 : StmAt db3 ab77 sb76 ss79 (opS s8d3 4) := by have h_ := hs81; rw [show ((s8d3.la.length : Nat) : Int) - 2 = 4 from by rw [s8_n.2.2.2]; rfl] at h_; exact h_
  have hd87 : StmAt db3 ab77 sb76 ss79 s8v6 := hs86
  refine s_op (o_move (v := (.tuple #[(.pointer (some ⟨sb76, 0, none⟩)), (.int .i64 (0 : Int))])) rfl ?_)
  refine s_op (o_extract (v := (.pointer (some ⟨sb76, 0, none⟩))) rfl rfl ?_)
  refine s_op (o_extract (v := (.int .i64 (0 : Int))) rfl rfl ?_)
  refine s_op (o_assign (v := (.pointer (some ⟨sb76, 0, none⟩))) rfl ?_)
  refine s_op (o_assign (v := (.int .i64 (0 : Int))) rfl ?_)
  refine s_nil ?_
  refine t_norm (hK75 _ _ ?_)
  refine wp_seq_k fun K88 hK88 => ?_
  refine c_region ?_
  refine s_op (o_move (v := (.pointer (some ⟨sb76, 0, none⟩))) rfl ?_)
  refine s_op (o_callf (vs := #[(.pointer (some ⟨sb76, 0, none⟩)), (.int .i64 0)]) ca17 rfl (args2 rfl rfl) (sentries_c (v := s8v6) (db := db3) (ab := ab77) (g := 0) (n := 4) hH85.all (hd87.rd.mono (seg_sub 0 rfl)) s8_k6) ?_)
  rintro _ w94 ⟨v89, s90, rfl, ho91, hX92⟩
  refine ⟨_, rfl, ?_⟩
  have hH93 : Has E w94 [s90, ss79, [Hp.one ab77 (.cells #[(.pointer (some ⟨db3, 0, none⟩)), (.int .i64 2), (.int .i64 4)] 265 (0, 0))], sg78, [Hp.one pb4 (.cells #[(.bool s8d3.p.off), (.bool s8d3.p.armed), (.int .i64 s8d3.p.left), (.int .i64 s8d3.p.uses)] 145 (0, 0))], sg61, [Hp.one b58 (.cells #[(S [100])] 9 (0, 0))], [Hp.one ab14 (.cells #[(.pointer (some ⟨db3, 0, none⟩)), (.int .i64 2), (.int .i64 4)] 265 (0, 0))], [Hp.one b37 (.cells #[(S [98]), (S [99])] 9 (0, 0))], [Hp.one b27 (.cells #[(S [97])] 9 (0, 0))], R] := hX92.of_all1
  refine s_op (o_assign (v := v89) rfl ?_)
  refine s_nil ?_
  refine t_norm (hK88 _ _ ?_)
  refine wp_seq_k fun K95 hK95 => ?_
  refine c_region ?_
  refine s_op (o_move (v := (.int .i64 (0 : Int))) rfl ?_)
  refine s_op (o_eql (a := (0 : Int)) (b := 0) rfl rfl ?_)
  refine s_op (o_move (v := (.bool (decide ((0 : Int) = 0)))) rfl ?_)
  by_cases h96 : (0 : Int) = 0
  · -- (0 : Int) = 0
    refine s_on 38 rfl (congrArg Value.bool (decide_eq_true h96)) (o_move (v := (.int .i64 (apE 4 s8v1 1 [[97]].flatten))) rfl ?_)
    refine s_on 38 rfl (congrArg Value.bool (decide_eq_true h96)) (o_eql (a := (apE 4 s8v1 1 [[97]].flatten)) (b := 0) rfl rfl ?_)
    refine s_op (o_pick_t (u := (.bool (decide ((apE 4 s8v1 1 [[97]].flatten) = 0)))) ((rfl : _ = _).trans (congrArg Value.bool (decide_eq_true h96))) rfl ?_)
    refine s_op (o_move (v := (.bool (decide ((apE 4 s8v1 1 [[97]].flatten) = 0)))) rfl ?_)
    by_cases h97 : (apE 4 s8v1 1 [[97]].flatten) = 0
    · -- (apE 4 s8v1 1 [[97]].flatten) = 0
      refine s_on 42 rfl (congrArg Value.bool (decide_eq_true h97)) (o_move (v := (.int .i64 (apE 4 s8v2 2 [[98], [99]].flatten))) rfl ?_)
      refine s_on 42 rfl (congrArg Value.bool (decide_eq_true h97)) (o_eql (a := (apE 4 s8v2 2 [[98], [99]].flatten)) (b := 0) rfl rfl ?_)
      refine s_op (o_pick_t (u := (.bool (decide ((apE 4 s8v2 2 [[98], [99]].flatten) = 0)))) ((rfl : _ = _).trans (congrArg Value.bool (decide_eq_true h97))) rfl ?_)
      refine s_op (o_move (v := (.bool (decide ((apE 4 s8v2 2 [[98], [99]].flatten) = 0)))) rfl ?_)
      by_cases h98 : (apE 4 s8v2 2 [[98], [99]].flatten) = 0
      · -- (apE 4 s8v2 2 [[98], [99]].flatten) = 0
        refine s_on 46 rfl (congrArg Value.bool (decide_eq_true h98)) (o_move (v := (.int .i64 ((flS 4 s8d1 s8v3 2).1))) rfl ?_)
        refine s_on 46 rfl (congrArg Value.bool (decide_eq_true h98)) (o_eql (a := (flS 4 s8d1 s8v3 2).1) (b := 0) rfl rfl ?_)
        refine s_op (o_pick_t (u := (.bool (decide ((flS 4 s8d1 s8v3 2).1 = 0)))) ((rfl : _ = _).trans (congrArg Value.bool (decide_eq_true h98))) rfl ?_)
        refine s_op (o_move (v := (.bool (decide ((flS 4 s8d1 s8v3 2).1 = 0)))) rfl ?_)
        by_cases h99 : (flS 4 s8d1 s8v3 2).1 = 0
        · -- (flS 4 s8d1 s8v3 2).1 = 0
          refine s_on 50 rfl (congrArg Value.bool (decide_eq_true h99)) (o_move (v := (.int .i64 (0 : Int))) rfl ?_)
          refine s_on 50 rfl (congrArg Value.bool (decide_eq_true h99)) (o_eql (a := (0 : Int)) (b := 0) rfl rfl ?_)
          refine s_op (o_pick_t (u := (.bool (decide ((0 : Int) = 0)))) ((rfl : _ = _).trans (congrArg Value.bool (decide_eq_true h99))) rfl ?_)
          refine s_op (o_move (v := (.bool (decide ((0 : Int) = 0)))) rfl ?_)
          refine s_on 54 rfl (congrArg Value.bool (decide_eq_true h96)) (o_move (v := v89) rfl ?_)
          refine s_on 54 rfl (congrArg Value.bool (decide_eq_true h96)) (o_lenS Tryz.underlying37 rfl ho91.sl ?_)
          refine s_on 54 rfl (congrArg Value.bool (decide_eq_true h96)) (o_eql (a := (((s8v6.l.drop (posE s8v6.l 0).toNat).length : Nat) : Int)) (b := 2) rfl rfl ?_)
          refine s_op (o_pick_t (u := (.bool (decide ((((s8v6.l.drop (posE s8v6.l 0).toNat).length : Nat) : Int) = 2)))) ((rfl : _ = _).trans (congrArg Value.bool (decide_eq_true h96))) rfl ?_)
          refine s_op (o_move (v := (.bool (decide ((((s8v6.l.drop (posE s8v6.l 0).toNat).length : Nat) : Int) = 2)))) rfl ?_)
          by_cases h100 : (((s8v6.l.drop (posE s8v6.l 0).toNat).length : Nat) : Int) = 2
          · -- (((s8v6.l.drop (posE s8v6.l 0).toNat).length : Nat) : Int) = 2
            refine s_on 59 rfl (congrArg Value.bool (decide_eq_true h100)) (o_move (v := v89) rfl ?_)
            obtain ⟨x104, hx105⟩ : ∃ x_, (s8v6.l.drop (posE s8v6.l 0).toNat)[((1 : Int)).toNat]? = some x_ := get_some (by rw [s8_l]; decide)
            refine s_on 59 rfl (congrArg Value.bool (decide_eq_true h100)) (o_indexF enC_len Tryz.underlying37 ti42 rfl ho91.sl rfl rfl (by omega) hx105 fun b101 o102 hc103 => ?_)
            refine s_on 59 rfl (congrArg Value.bool (decide_eq_true h100)) (o_loadN (cs := [(.int .i64 x104.gsn), (.int .i64 x104.at_), (S x104.data)]) Tryz.underlying42 rfl ti42 rfl hH93 (seg_sub 0 rfl) hc103 ?_)
            refine s_on 59 rfl (congrArg Value.bool (decide_eq_true h100)) (o_sight (v := (.agg #[(.int .i64 2), (.int .i64 26), (S [98, 99])])) (fun _ => by kernel_rfl) ?_)
            refine s_on 59 rfl (congrArg Value.bool (decide_eq_true h100)) (o_eql42 x104.gsn x104.at_ x104.data (2 : Int) (26 : Int) [98, 99] rfl rfl ?_)
            refine s_op (o_pick_t (u := (.bool (eqv42 x104.gsn x104.at_ x104.data (2 : Int) (26 : Int) [98, 99]))) ((rfl : _ = _).trans (congrArg Value.bool (decide_eq_true h100))) rfl ?_)
            refine s_op (o_move (v := (.bool (eqv42 x104.gsn x104.at_ x104.data (2 : Int) (26 : Int) [98, 99]))) rfl ?_)
            rcases Bool.eq_false_or_eq_true (eqv42 x104.gsn x104.at_ x104.data (2 : Int) (26 : Int) [98, 99]) with h106 | h106
            · -- eqv42 x104.gsn x104.at_ x104.data (2 : Int) (26 : Int) [98, 99]
              refine s_on 66 rfl (congrArg Value.bool h106) (o_move (v := (.pointer (some ⟨sb76, 0, none⟩))) rfl ?_)
              refine s_on 66 rfl (congrArg Value.bool h106) (o_callf (vs := #[(.pointer (some ⟨sb76, 0, none⟩))]) ca29 rfl (args1 rfl) (slast_c (v := s8v6) (db := db3) (ab := ab77) (n := 4) hH93.all (hd87.rd.mono (seg_sub 1 rfl)) s8_k6) ?_)
              rintro _ w109 ⟨rfl, hX107⟩
              refine ⟨_, rfl, ?_⟩
              have hH108 := hX107.of_all
              refine s_on 66 rfl (congrArg Value.bool h106) (o_eql (a := (lastV s8v6)) (b := 2) rfl rfl ?_)
              refine s_op (o_pick_t (u := (.bool (decide ((lastV s8v6) = 2)))) ((rfl : _ = _).trans (congrArg Value.bool h106)) rfl ?_)
              refine s_op (o_assign (v := (.bool (decide ((lastV s8v6) = 2)))) rfl ?_)
              refine s_nil ?_
              refine t_norm (hK95 _ _ ?_)
              refine wp_ret ?_
              refine c_ret1 Tryz.results11  (v := (.bool (decide ((lastV s8v6) = 2)))) rfl ?_
              have hH110 : Has E w109 [R] := (hH108.front 10 rfl).first 1 rfl
              exact ⟨by first | rfl | (rw [decide_eq_true (by first | decide | exact s8_t)]), hH110⟩
            · -- not: eqv42 x104.gsn x104.at_ x104.data (2 : Int) (26 : Int) [98, 99]
              exact absurd h106 (by have hx_ := hx105; rw [s8_l] at hx_; have e_ : _ = _ := Option.some.inj hx_; rw [← e_]; decide)
          · -- not: (((s8v6.l.drop (posE s8v6.l 0).toNat).length : Nat) : Int) = 2
            exact absurd (by rw [s8_l]; rfl) h100
        · -- not: (flS 4 s8d1 s8v3 2).1 = 0
          exact absurd s8_c h99
      · -- not: (apE 4 s8v2 2 [[98], [99]].flatten) = 0
        exact absurd (show _ = _ from s8_b) h98
    · -- not: (apE 4 s8v1 1 [[97]].flatten) = 0
      exact absurd (show _ = _ from s8_a) h97
  · -- not: (0 : Int) = 0
    exact absurd h96 (by decide)
end Go.Q
namespace Go.Q
open Go.Proofs
set_option linter.unusedVariables false
set_option maxRecDepth 100000
attribute [local irreducible] wpList OK Code.wp
set_option maxHeartbeats 4000000 in
theorem StreamNone_c {E w : World} {R : List Hp} (hH : Has E w [R]) (hg : CellsAt R 0 0 nibV) {n : Int} (data : Bs) :
    Calls Tryz.prog 5 #[(.int .i64 n), (S data)] w fun e w' => e = .returned (.bool true) ∧ Has E w' [R] := by
  refine c_enter (args := [(.int .i64 n), (S data)]) Tryz.func5 rfl Tryz.ntmps5 (by simp) ?_
  refine wp_seq_k fun K1 hK1 => ?_
  refine c_region ?_
  refine s_op (o_assign (v := (.bool false)) rfl ?_)
  refine s_nil ?_
  refine t_norm (hK1 _ _ ?_)
  refine wp_seq_k fun K2 hK2 => ?_
  refine wp_seq_k fun K3 hK3 => ?_
  refine c_region ?_
  refine s_op (o_move (v := (S data)) rfl ?_)
  refine s_op (o_slen Tryz.underlying9 rfl ?_)
  refine s_op (o_gtr (a := (data.length : Int)) (b := 200) rfl rfl ?_)
  refine s_op (o_move (v := (.bool (decide (200 < (data.length : Int))))) rfl ?_)
  by_cases h4 : 200 < (data.length : Int)
  · -- 200 < (data.length : Int)
    refine s_off (b' := true) 18 rfl (congrArg Value.bool (decide_eq_true h4)) rfl ?_
    refine s_off (b' := true) 18 rfl (congrArg Value.bool (decide_eq_true h4)) rfl ?_
    refine s_op (o_pick_t (u := (.bool true)) ((rfl : _ = _).trans (congrArg Value.bool (decide_eq_true h4))) rfl ?_)
    refine s_nil ?_
    refine t_norm (hK3 _ _ ?_)
    refine c_true rfl rfl ?_
    refine wp_seq_k fun K5 hK5 => ?_
    refine c_region ?_
    refine s_op (o_callf (vs := #[]) ca11 rfl (args0) (awake8_c hH.all (hg.mono (seg_sub 0 rfl))) ?_)
    rintro _ w8 ⟨rfl, hX6⟩
    refine ⟨_, rfl, ?_⟩
    have hH7 := hX6.of_all
    refine s_op (o_assign (v := (.bool true)) rfl ?_)
    refine s_nil ?_
    refine t_norm (hK5 _ _ ?_)
    refine wp_ret ?_
    refine t_ret (c_ret1 Tryz.results5  (v := (.bool true)) rfl ?_)
    exact ⟨by first | rfl | (rw [decide_eq_true (by decide +kernel)]) | (rw [decide_eq_true rfl]), hH7⟩
  · -- not: 200 < (data.length : Int)
    refine s_on 18 rfl (congrArg Value.bool (decide_eq_false h4)) (o_callf (vs := #[]) ca11 rfl (args0) (awake8_c hH.all (hg.mono (seg_sub 0 rfl))) ?_)
    rintro _ w11 ⟨rfl, hX9⟩
    refine ⟨_, rfl, ?_⟩
    have hH10 := hX9.of_all
    refine s_on 18 rfl (congrArg Value.bool (decide_eq_false h4)) (o_not rfl ?_)
    refine s_op (o_pick_f (u := (.bool false)) ((rfl : _ = _).trans (congrArg Value.bool (decide_eq_false h4))) rfl ?_)
    refine s_nil ?_
    refine t_norm (hK3 _ _ ?_)
    refine c_false rfl rfl ?_
    refine wp_skip ?_
    refine t_norm (hK2 _ _ ?_)
    refine wp_seq_k fun K12 hK12 => ?_
    refine c_region ?_
    refine s_op (o_callf (vs := #[(.pointer none), (.int .i64 2)]) ca12 rfl (args2 rfl rfl) (new_nil hH10.all (n := 2) (by decide)) ?_)
    rintro _ w19 ⟨db13, pb14, sg15, rfl, hd16, hX17⟩
    refine ⟨_, rfl, ?_⟩
    have hH18 : Has E w19 [sg15, [Hp.one pb14 (.cells #[(.bool (Pw.mk false false 0 0).off), (.bool (Pw.mk false false 0 0).armed), (.int .i64 (Pw.mk false false 0 0).left), (.int .i64 (Pw.mk false false 0 0).uses)] 145 (0, 0))], R] := hX17.of_all2
    refine s_op (o_callf (vs := #[(.pointer (some ⟨db13, 0, none⟩))]) ca31 rfl (args1 rfl) (sformat_few (d := (Dv.mk (Pw.mk false false 0 0) (List.replicate 2 blankS) [])) ((hH18.front 1 rfl).front 1 rfl).all2 hd16 (by decide +kernel) (by decide)) ?_)
    rintro _ w22 ⟨rfl, hX20⟩
    refine ⟨_, rfl, ?_⟩
    have hH21 : Has E w22 [sg15, [Hp.one pb14 (.cells #[(.bool (Pw.mk false false 0 0).off), (.bool (Pw.mk false false 0 0).armed), (.int .i64 (Pw.mk false false 0 0).left), (.int .i64 (Pw.mk false false 0 0).uses)] 145 (0, 0))], R] := hX20.of_all2
    refine s_op (o_move (v := (.tuple #[(.pointer none), (.int .i64 (1 : Int))])) rfl ?_)
    refine s_op (o_extract (v := (.pointer none)) rfl rfl ?_)
    refine s_op (o_extract (v := (.int .i64 (1 : Int))) rfl rfl ?_)
    refine s_op (o_assign (v := (.pointer none)) rfl ?_)
    refine s_op (o_assign (v := (.int .i64 (1 : Int))) rfl ?_)
    refine s_nil ?_
    refine t_norm (hK12 _ _ ?_)
    refine wp_seq_k fun K23 hK23 => ?_
    refine c_region ?_
    refine s_op (o_callf (vs := #[(.pointer none)]) ca16 rfl (args1 rfl) (sopen_nil hH21.all) ?_)
    rintro _ w26 ⟨rfl, hX24⟩
    refine ⟨_, rfl, ?_⟩
    have hH25 := hX24.of_all
    refine s_op (o_move (v := (.tuple #[(.pointer none), (.int .i64 (1 : Int))])) rfl ?_)
    refine s_op (o_extract (v := (.pointer none)) rfl rfl ?_)
    refine s_op (o_extract (v := (.int .i64 (1 : Int))) rfl rfl ?_)
    refine s_op (o_assign (v := (.pointer none)) rfl ?_)
    refine s_op (o_assign (v := (.int .i64 (1 : Int))) rfl ?_)
    refine s_nil ?_
    refine t_norm (hK23 _ _ ?_)
    refine wp_seq_k fun K27 hK27 => ?_
    refine c_region ?_
    refine s_op (o_callf (vs := #[(.pointer none), (.int .i64 3)]) ca12 rfl (args2 rfl rfl) (new_nil hH25.all (n := 3) (by decide)) ?_)
    rintro _ w34 ⟨db28, pb29, sg30, rfl, hd31, hX32⟩
    refine ⟨_, rfl, ?_⟩
    have hH33 : Has E w34 [sg30, [Hp.one pb29 (.cells #[(.bool (Pw.mk false false 0 0).off), (.bool (Pw.mk false false 0 0).armed), (.int .i64 (Pw.mk false false 0 0).left), (.int .i64 (Pw.mk false false 0 0).uses)] 145 (0, 0))], sg15, [Hp.one pb14 (.cells #[(.bool (Pw.mk false false 0 0).off), (.bool (Pw.mk false false 0 0).armed), (.int .i64 (Pw.mk false false 0 0).left), (.int .i64 (Pw.mk false false 0 0).uses)] 145 (0, 0))], R] := hX32.of_all2
    refine s_op (o_callf (vs := #[(.pointer (some ⟨db28, 0, none⟩))]) ca16 rfl (args1 rfl) (sopen_err (d := (Dv.mk (Pw.mk false false 0 0) (List.replicate 3 blankS) [])) ((hH33.front 1 rfl).front 1 rfl).all2 hd31 (by decide +kernel) (by decide) rfl (by unfold Full64; decide +kernel) rfl (hg.mono (seg_sub 2 rfl)) (by decide +kernel)) ?_)
    rintro _ w37 ⟨rfl, hX35⟩
    refine ⟨_, rfl, ?_⟩
    have hH36 : Has E w37 [sg30, [Hp.one pb29 (.cells #[(.bool (Pw.mk false false 0 0).off), (.bool (Pw.mk false false 0 0).armed), (.int .i64 (Pw.mk false false 0 0).left), (.int .i64 (Pw.mk false false 0 0).uses)] 145 (0, 0))], sg15, [Hp.one pb14 (.cells #[(.bool (Pw.mk false false 0 0).off), (.bool (Pw.mk false false 0 0).armed), (.int .i64 (Pw.mk false false 0 0).left), (.int .i64 (Pw.mk false false 0 0).uses)] 145 (0, 0))], R] := hX35.of_all2
    refine s_op (o_move (v := (.tuple #[(.pointer none), (.int .i64 (opE (Dv.mk (Pw.mk false false 0 0) (List.replicate 3 blankS) []) ((((Dv.mk (Pw.mk false false 0 0) (List.replicate 3 blankS) []).la.length : Nat) : Int) - 2)))])) rfl ?_)
    refine s_op (o_extract (v := (.pointer none)) rfl rfl ?_)
    refine s_op (o_extract (v := (.int .i64 (opE (Dv.mk (Pw.mk false false 0 0) (List.replicate 3 blankS) []) ((((Dv.mk (Pw.mk false false 0 0) (List.replicate 3 blankS) []).la.length : Nat) : Int) - 2)))) rfl rfl ?_)
    refine s_op (o_assign (v := (.pointer none)) rfl ?_)
    refine s_op (o_assign (v := (.int .i64 (opE (Dv.mk (Pw.mk false false 0 0) (List.replicate 3 blankS) []) ((((Dv.mk (Pw.mk false false 0 0) (List.replicate 3 blankS) []).la.length : Nat) : Int) - 2)))) rfl ?_)
    refine s_nil ?_
    refine t_norm (hK27 _ _ ?_)
    refine wp_seq_k fun K38 hK38 => ?_
    refine c_region ?_
    refine s_op (o_callf (vs := #[(.pointer none), (.int .i64 3)]) ca12 rfl (args2 rfl rfl) (new_nil hH36.all (n := 3) (by decide)) ?_)
    rintro _ w45 ⟨db39, pb40, sg41, rfl, hd42, hX43⟩
    refine ⟨_, rfl, ?_⟩
    have hH44 : Has E w45 [sg41, [Hp.one pb40 (.cells #[(.bool (Pw.mk false false 0 0).off), (.bool (Pw.mk false false 0 0).armed), (.int .i64 (Pw.mk false false 0 0).left), (.int .i64 (Pw.mk false false 0 0).uses)] 145 (0, 0))], sg30, [Hp.one pb29 (.cells #[(.bool (Pw.mk false false 0 0).off), (.bool (Pw.mk false false 0 0).armed), (.int .i64 (Pw.mk false false 0 0).left), (.int .i64 (Pw.mk false false 0 0).uses)] 145 (0, 0))], sg15, [Hp.one pb14 (.cells #[(.bool (Pw.mk false false 0 0).off), (.bool (Pw.mk false false 0 0).armed), (.int .i64 (Pw.mk false false 0 0).left), (.int .i64 (Pw.mk false false 0 0).uses)] 145 (0, 0))], R] := hX43.of_all2
    refine s_op (o_assign (v := (.pointer (some ⟨db39, 0, none⟩))) rfl ?_)
    refine s_nil ?_
    refine t_norm (hK38 _ _ ?_)
    refine wp_seq_k fun K46 hK46 => ?_
    refine c_region ?_
    refine s_op (o_move (v := (.pointer (some ⟨db39, 0, none⟩))) rfl ?_)
    refine s_op (o_callf (vs := #[(.pointer (some ⟨db39, 0, none⟩)), (.int .i64 0)]) ca22 rfl (args2 rfl rfl) (dv_ar (d := (Dv.mk (Pw.mk false false 0 0) (List.replicate 3 blankS) [])) ((hH44.front 1 rfl).front 1 rfl).all2 hd42 0) ?_)
    rintro _ w50 ⟨rfl, hd47, hX48⟩
    refine ⟨_, rfl, ?_⟩
    have hH49 : Has E w50 [sg41, [Hp.one pb40 (.cells #[(.bool ((Dv.mk (Pw.mk false false 0 0) (List.replicate 3 blankS) []).ar 0).p.off), (.bool ((Dv.mk (Pw.mk false false 0 0) (List.replicate 3 blankS) []).ar 0).p.armed), (.int .i64 ((Dv.mk (Pw.mk false false 0 0) (List.replicate 3 blankS) []).ar 0).p.left), (.int .i64 ((Dv.mk (Pw.mk false false 0 0) (List.replicate 3 blankS) []).ar 0).p.uses)] 145 (0, 0))], sg30, [Hp.one pb29 (.cells #[(.bool (Pw.mk false false 0 0).off), (.bool (Pw.mk false false 0 0).armed), (.int .i64 (Pw.mk false false 0 0).left), (.int .i64 (Pw.mk false false 0 0).uses)] 145 (0, 0))], sg15, [Hp.one pb14 (.cells #[(.bool (Pw.mk false false 0 0).off), (.bool (Pw.mk false false 0 0).armed), (.int .i64 (Pw.mk false false 0 0).left), (.int .i64 (Pw.mk false false 0 0).uses)] 145 (0, 0))], R] := hX48.of_all2
    refine s_nil ?_
    refine t_norm (hK46 _ _ ?_)
    refine wp_seq_k fun K51 hK51 => ?_
    refine c_region ?_
    refine s_op (o_move (v := (.pointer (some ⟨db39, 0, none⟩))) rfl ?_)
    refine s_op (o_callf (vs := #[(.pointer (some ⟨db39, 0, none⟩))]) ca32 rfl (args1 rfl) (dv_syN (d := ((Dv.mk (Pw.mk false false 0 0) (List.replicate 3 blankS) []).ar 0)) ((hH49.front 1 rfl).front 1 rfl).all2 hd47 ((few_ar (n := 0) Few.new (by omega)).ok (by omega)) (by decide +kernel) (LoOk.nil _)) ?_)
    rintro _ w56 ⟨sg52, rfl, hd53, hX54⟩
    refine ⟨_, rfl, ?_⟩
    have hH55 : Has E w56 [sg52, [Hp.one pb40 (.cells #[(.bool (((Dv.mk (Pw.mk false false 0 0) (List.replicate 3 blankS) []).ar 0).syN).p.off), (.bool (((Dv.mk (Pw.mk false false 0 0) (List.replicate 3 blankS) []).ar 0).syN).p.armed), (.int .i64 (((Dv.mk (Pw.mk false false 0 0) (List.replicate 3 blankS) []).ar 0).syN).p.left), (.int .i64 (((Dv.mk (Pw.mk false false 0 0) (List.replicate 3 blankS) []).ar 0).syN).p.uses)] 145 (0, 0))], sg30, [Hp.one pb29 (.cells #[(.bool (Pw.mk false false 0 0).off), (.bool (Pw.mk false false 0 0).armed), (.int .i64 (Pw.mk false false 0 0).left), (.int .i64 (Pw.mk false false 0 0).uses)] 145 (0, 0))], sg15, [Hp.one pb14 (.cells #[(.bool (Pw.mk false false 0 0).off), (.bool (Pw.mk false false 0 0).armed), (.int .i64 (Pw.mk false false 0 0).left), (.int .i64 (Pw.mk false false 0 0).uses)] 145 (0, 0))], R] := hX54.of_all2
    refine s_nil ?_
    refine t_norm (hK51 _ _ ?_)
    refine wp_seq_k fun K57 hK57 => ?_
    refine c_region ?_
    refine s_op (o_move (v := (.pointer (some ⟨db39, 0, none⟩))) rfl ?_)
    refine s_op (o_callf (vs := #[(.pointer (some ⟨db39, 0, none⟩))]) ca31 rfl (args1 rfl) (sformat_off (d := ((Dv.mk (Pw.mk false false 0 0) (List.replicate 3 blankS) []).ar 0).syN) ((hH55.front 1 rfl).front 1 rfl).all2 hd53 (by decide +kernel) (by decide +kernel) (by decide +kernel)) ?_)
    rintro _ w60 ⟨rfl, hX58⟩
    refine ⟨_, rfl, ?_⟩
    have hH59 : Has E w60 [sg52, [Hp.one pb40 (.cells #[(.bool (((Dv.mk (Pw.mk false false 0 0) (List.replicate 3 blankS) []).ar 0).syN).p.off), (.bool (((Dv.mk (Pw.mk false false 0 0) (List.replicate 3 blankS) []).ar 0).syN).p.armed), (.int .i64 (((Dv.mk (Pw.mk false false 0 0) (List.replicate 3 blankS) []).ar 0).syN).p.left), (.int .i64 (((Dv.mk (Pw.mk false false 0 0) (List.replicate 3 blankS) []).ar 0).syN).p.uses)] 145 (0, 0))], sg30, [Hp.one pb29 (.cells #[(.bool (Pw.mk false false 0 0).off), (.bool (Pw.mk false false 0 0).armed), (.int .i64 (Pw.mk false false 0 0).left), (.int .i64 (Pw.mk false false 0 0).uses)] 145 (0, 0))], sg15, [Hp.one pb14 (.cells #[(.bool (Pw.mk false false 0 0).off), (.bool (Pw.mk false false 0 0).armed), (.int .i64 (Pw.mk false false 0 0).left), (.int .i64 (Pw.mk false false 0 0).uses)] 145 (0, 0))], R] := hX58.of_all2
    refine s_op (o_move (v := (.tuple #[(.pointer none), (.int .i64 (6 : Int))])) rfl ?_)
    refine s_op (o_extract (v := (.pointer none)) rfl rfl ?_)
    refine s_op (o_extract (v := (.int .i64 (6 : Int))) rfl rfl ?_)
    refine s_op (o_assign (v := (.pointer none)) rfl ?_)
    refine s_op (o_assign (v := (.int .i64 (6 : Int))) rfl ?_)
    refine s_nil ?_
    refine t_norm (hK57 _ _ ?_)
    refine wp_seq_k fun K61 hK61 => ?_
    refine c_region ?_
    refine s_op (o_assign (v := (.pointer none)) rfl ?_)
    refine s_nil ?_
    refine t_norm (hK61 _ _ ?_)
    refine wp_seq_k fun K62 hK62 => ?_
    refine c_region ?_
    refine s_op (o_move (v := (.pointer none)) rfl ?_)
    refine s_op (o_move (v := (.int .i64 n)) rfl ?_)
    refine s_op (o_callf (vs := #[(.pointer none), (.int .i64 n)]) ca33 rfl (args2 rfl rfl) (srelease_nil (k := n) hH59.all ) ?_)
    rintro _ w65 ⟨rfl, hX63⟩
    refine ⟨_, rfl, ?_⟩
    have hH64 := hX63.of_all
    refine s_nil ?_
    refine t_norm (hK62 _ _ ?_)
    refine wp_seq_k fun K66 hK66 => ?_
    refine c_region ?_
    refine s_op (o_move (v := (.pointer none)) rfl ?_)
    refine s_op (o_pnil (p := none) Tryz.underlying34 rfl rfl ?_)
    refine s_op (o_move (v := (.bool true)) rfl ?_)
    refine s_on 52 rfl rfl (o_move (v := (.int .i64 (1 : Int))) rfl ?_)
    refine s_on 52 rfl rfl (o_eql (a := (1 : Int)) (b := 1) rfl rfl ?_)
    refine s_op (o_pick_t (u := (.bool (decide ((1 : Int) = 1)))) rfl rfl ?_)
    refine s_op (o_move (v := (.bool (decide ((1 : Int) = 1)))) rfl ?_)
    by_cases h67 : (1 : Int) = 1
    · -- (1 : Int) = 1
      refine s_on 56 rfl (congrArg Value.bool (decide_eq_true h67)) (o_move (v := (.pointer none)) rfl ?_)
      refine s_on 56 rfl (congrArg Value.bool (decide_eq_true h67)) (o_pnil (p := none) Tryz.underlying34 rfl rfl ?_)
      refine s_op (o_pick_t (u := (.bool true)) ((rfl : _ = _).trans (congrArg Value.bool (decide_eq_true h67))) rfl ?_)
      refine s_op (o_move (v := (.bool true)) rfl ?_)
      refine s_on 60 rfl rfl (o_move (v := (.int .i64 (1 : Int))) rfl ?_)
      refine s_on 60 rfl rfl (o_eql (a := (1 : Int)) (b := 1) rfl rfl ?_)
      refine s_op (o_pick_t (u := (.bool (decide ((1 : Int) = 1)))) rfl rfl ?_)
      refine s_op (o_move (v := (.bool (decide ((1 : Int) = 1)))) rfl ?_)
      refine s_on 64 rfl (congrArg Value.bool (decide_eq_true h67)) (o_move (v := (.pointer none)) rfl ?_)
      refine s_on 64 rfl (congrArg Value.bool (decide_eq_true h67)) (o_pnil (p := none) Tryz.underlying34 rfl rfl ?_)
      refine s_op (o_pick_t (u := (.bool true)) ((rfl : _ = _).trans (congrArg Value.bool (decide_eq_true h67))) rfl ?_)
      refine s_op (o_move (v := (.bool true)) rfl ?_)
      refine s_on 68 rfl rfl (o_move (v := (.int .i64 (opE (Dv.mk (Pw.mk false false 0 0) (List.replicate 3 blankS) []) ((((Dv.mk (Pw.mk false false 0 0) (List.replicate 3 blankS) []).la.length : Nat) : Int) - 2)))) rfl ?_)
      refine s_on 68 rfl rfl (o_eql (a := (opE (Dv.mk (Pw.mk false false 0 0) (List.replicate 3 blankS) []) ((((Dv.mk (Pw.mk false false 0 0) (List.replicate 3 blankS) []).la.length : Nat) : Int) - 2))) (b := 7) rfl rfl ?_)
      refine s_op (o_pick_t (u := (.bool (decide ((opE (Dv.mk (Pw.mk false false 0 0) (List.replicate 3 blankS) []) ((((Dv.mk (Pw.mk false false 0 0) (List.replicate 3 blankS) []).la.length : Nat) : Int) - 2)) = 7)))) rfl rfl ?_)
      refine s_op (o_move (v := (.bool (decide ((opE (Dv.mk (Pw.mk false false 0 0) (List.replicate 3 blankS) []) ((((Dv.mk (Pw.mk false false 0 0) (List.replicate 3 blankS) []).la.length : Nat) : Int) - 2)) = 7)))) rfl ?_)
      by_cases h68 : (opE (Dv.mk (Pw.mk false false 0 0) (List.replicate 3 blankS) []) ((((Dv.mk (Pw.mk false false 0 0) (List.replicate 3 blankS) []).la.length : Nat) : Int) - 2)) = 7
      · -- (opE (Dv.mk (Pw.mk false false 0 0) (List.replicate 3 blankS) []) ((((Dv.mk (Pw.mk false false 0 0) (List.replicate 3 blankS) []).la.length : Nat) : Int) - 2)) = 7
        refine s_on 72 rfl (congrArg Value.bool (decide_eq_true h68)) (o_move (v := (.pointer none)) rfl ?_)
        refine s_on 72 rfl (congrArg Value.bool (decide_eq_true h68)) (o_pnil (p := none) Tryz.underlying34 rfl rfl ?_)
        refine s_op (o_pick_t (u := (.bool true)) ((rfl : _ = _).trans (congrArg Value.bool (decide_eq_true h68))) rfl ?_)
        refine s_op (o_move (v := (.bool true)) rfl ?_)
        refine s_on 76 rfl rfl (o_move (v := (.int .i64 (6 : Int))) rfl ?_)
        refine s_on 76 rfl rfl (o_eql (a := (6 : Int)) (b := 6) rfl rfl ?_)
        refine s_op (o_pick_t (u := (.bool (decide ((6 : Int) = 6)))) rfl rfl ?_)
        refine s_op (o_move (v := (.bool (decide ((6 : Int) = 6)))) rfl ?_)
        by_cases h69 : (6 : Int) = 6
        · -- (6 : Int) = 6
          refine s_on 80 rfl (congrArg Value.bool (decide_eq_true h69)) (o_move (v := (.pointer none)) rfl ?_)
          refine s_on 80 rfl (congrArg Value.bool (decide_eq_true h69)) (o_move (v := (.int .i64 n)) rfl ?_)
          refine s_on 80 rfl (congrArg Value.bool (decide_eq_true h69)) (o_callf (vs := #[(.pointer none), (.int .i64 n)]) ca28 rfl (args2 rfl rfl) (scut_nil (m := n) hH64.all ) ?_)
          rintro _ w72 ⟨rfl, hX70⟩
          refine ⟨_, rfl, ?_⟩
          have hH71 := hX70.of_all
          refine s_on 80 rfl (congrArg Value.bool (decide_eq_true h69)) (o_eql (a := 1) (b := 1) rfl rfl ?_)
          refine s_op (o_pick_t (u := (.bool (decide ((1 : Int) = (1 : Int))))) ((rfl : _ = _).trans (congrArg Value.bool (decide_eq_true h69))) rfl ?_)
          refine s_op (o_move (v := (.bool (decide ((1 : Int) = (1 : Int))))) rfl ?_)
          by_cases h73 : (1 : Int) = (1 : Int)
          · -- (1 : Int) = (1 : Int)
            refine s_on 86 rfl (congrArg Value.bool (decide_eq_true h73)) (o_move (v := (.pointer none)) rfl ?_)
            refine s_on 86 rfl (congrArg Value.bool (decide_eq_true h73)) (o_move (v := (.int .i64 n)) rfl ?_)
            refine s_on 86 rfl (congrArg Value.bool (decide_eq_true h73)) (o_move (v := (S data)) rfl ?_)
            refine s_on 86 rfl (congrArg Value.bool (decide_eq_true h73)) (o_buildSlice (ps := #[(0, (S data))]) (cells := #[(S data)]) Tryz.underlying46 ti9 (by decide) (parts1 rfl) (by kernel_rfl) hH71 fun b74 w75 hH76 => ?_)
            refine s_on 86 rfl (congrArg Value.bool (decide_eq_true h73)) (o_callf (vs := #[(.pointer none), (.int .i64 n), (.slice (some ⟨b74, 0, none⟩) 1 1)]) ca30 rfl (args3 rfl rfl rfl) (sappend_nil (g := n) (ds := [data]) hH76.all ((sl_lit (f := sV) (l := [data]) rfl rfl (by simp)).mono (seg_sub 0 rfl)) (by simp) (by simp only [List.flatten_cons, List.flatten_nil, List.append_nil]; omega)) ?_)
            rintro _ w79 ⟨rfl, hX77⟩
            refine ⟨_, rfl, ?_⟩
            have hH78 := hX77.of_all
            refine s_on 86 rfl (congrArg Value.bool (decide_eq_true h73)) (o_eql (a := 1) (b := 1) rfl rfl ?_)
            refine s_op (o_pick_t (u := (.bool (decide ((1 : Int) = (1 : Int))))) ((rfl : _ = _).trans (congrArg Value.bool (decide_eq_true h73))) rfl ?_)
            refine s_op (o_move (v := (.bool (decide ((1 : Int) = (1 : Int))))) rfl ?_)
            refine s_on 94 rfl (congrArg Value.bool (decide_eq_true h73)) (o_move (v := (.pointer none)) rfl ?_)
            refine s_on 94 rfl (congrArg Value.bool (decide_eq_true h73)) (o_move (v := (.int .i64 n)) rfl ?_)
            refine s_on 94 rfl (congrArg Value.bool (decide_eq_true h73)) (o_move (v := (S data)) rfl ?_)
            refine s_on 94 rfl (congrArg Value.bool (decide_eq_true h73)) (o_buildSlice (ps := #[(0, (S data))]) (cells := #[(S data)]) Tryz.underlying46 ti9 (by decide) (parts1 rfl) (by kernel_rfl) hH78 fun b80 w81 hH82 => ?_)
            refine s_on 94 rfl (congrArg Value.bool (decide_eq_true h73)) (o_callf (vs := #[(.pointer none), (.int .i64 n), (.slice (some ⟨b80, 0, none⟩) 1 1)]) ca34 rfl (args3 rfl rfl rfl) (sclaim_nil (g := n) (ds := [data]) hH82.all ((sl_lit (f := sV) (l := [data]) rfl rfl (by simp)).mono (seg_sub 0 rfl)) (by simp) (by simp only [List.flatten_cons, List.flatten_nil, List.append_nil]; omega)) ?_)
            rintro _ w85 ⟨rfl, hX83⟩
            refine ⟨_, rfl, ?_⟩
            have hH84 := hX83.of_all
            refine s_on 94 rfl (congrArg Value.bool (decide_eq_true h73)) (o_eql (a := 1) (b := 1) rfl rfl ?_)
            refine s_op (o_pick_t (u := (.bool (decide ((1 : Int) = (1 : Int))))) ((rfl : _ = _).trans (congrArg Value.bool (decide_eq_true h73))) rfl ?_)
            refine s_op (o_move (v := (.bool (decide ((1 : Int) = (1 : Int))))) rfl ?_)
            refine s_on 102 rfl (congrArg Value.bool (decide_eq_true h73)) (o_move (v := (.pointer none)) rfl ?_)
            refine s_on 102 rfl (congrArg Value.bool (decide_eq_true h73)) (o_move (v := (.int .i64 n)) rfl ?_)
            refine s_on 102 rfl (congrArg Value.bool (decide_eq_true h73)) (o_max (a := n) (b := 0) rfl rfl ?_)
            refine s_on 102 rfl (congrArg Value.bool (decide_eq_true h73)) (o_callf (vs := #[(.pointer none), (.int .i64 (max n 0))]) ca35 rfl (args2 rfl rfl) (sreserve_nil (k := max n 0) hH84.all ) ?_)
            rintro _ w88 ⟨rfl, hX86⟩
            refine ⟨_, rfl, ?_⟩
            have hH87 := hX86.of_all
            refine s_on 102 rfl (congrArg Value.bool (decide_eq_true h73)) (o_eql (a := 1) (b := 1) rfl rfl ?_)
            refine s_op (o_pick_t (u := (.bool (decide ((1 : Int) = (1 : Int))))) ((rfl : _ = _).trans (congrArg Value.bool (decide_eq_true h73))) rfl ?_)
            refine s_op (o_move (v := (.bool (decide ((1 : Int) = (1 : Int))))) rfl ?_)
            refine s_on 109 rfl (congrArg Value.bool (decide_eq_true h73)) (o_move (v := (.pointer none)) rfl ?_)
            refine s_on 109 rfl (congrArg Value.bool (decide_eq_true h73)) (o_move (v := (.int .i64 n)) rfl ?_)
            refine s_on 109 rfl (congrArg Value.bool (decide_eq_true h73)) (o_callf (vs := #[(.pointer none), (.int .i64 n)]) ca23 rfl (args2 rfl rfl) (sflush_nil (m := n) hH87.all ) ?_)
            rintro _ w91 ⟨rfl, hX89⟩
            refine ⟨_, rfl, ?_⟩
            have hH90 := hX89.of_all
            refine s_on 109 rfl (congrArg Value.bool (decide_eq_true h73)) (o_eql (a := 1) (b := 1) rfl rfl ?_)
            refine s_op (o_pick_t (u := (.bool (decide ((1 : Int) = (1 : Int))))) ((rfl : _ = _).trans (congrArg Value.bool (decide_eq_true h73))) rfl ?_)
            refine s_op (o_move (v := (.bool (decide ((1 : Int) = (1 : Int))))) rfl ?_)
            refine s_on 115 rfl (congrArg Value.bool (decide_eq_true h73)) (o_move (v := (.pointer none)) rfl ?_)
            refine s_on 115 rfl (congrArg Value.bool (decide_eq_true h73)) (o_move (v := (.int .i64 n)) rfl ?_)
            refine s_on 115 rfl (congrArg Value.bool (decide_eq_true h73)) (o_callf (vs := #[(.pointer none), (.int .i64 n)]) ca36 rfl (args2 rfl rfl) (sforget_nil (m := n) hH90.all ) ?_)
            rintro _ w94 ⟨rfl, hX92⟩
            refine ⟨_, rfl, ?_⟩
            have hH93 := hX92.of_all
            refine s_on 115 rfl (congrArg Value.bool (decide_eq_true h73)) (o_eql (a := 1) (b := 1) rfl rfl ?_)
            refine s_op (o_pick_t (u := (.bool (decide ((1 : Int) = (1 : Int))))) ((rfl : _ = _).trans (congrArg Value.bool (decide_eq_true h73))) rfl ?_)
            refine s_op (o_move (v := (.bool (decide ((1 : Int) = (1 : Int))))) rfl ?_)
            refine s_on 121 rfl (congrArg Value.bool (decide_eq_true h73)) (o_move (v := (.pointer none)) rfl ?_)
            refine s_on 121 rfl (congrArg Value.bool (decide_eq_true h73)) (o_move (v := (.int .i64 n)) rfl ?_)
            refine s_on 121 rfl (congrArg Value.bool (decide_eq_true h73)) (o_callf (vs := #[(.pointer none), (.int .i64 n)]) ca17 rfl (args2 rfl rfl) (sentries_nil (g := n) hH93.all ) ?_)
            rintro _ w97 ⟨rfl, hX95⟩
            refine ⟨_, rfl, ?_⟩
            have hH96 := hX95.of_all
            refine s_on 121 rfl (congrArg Value.bool (decide_eq_true h73)) (o_lenS Tryz.underlying37 rfl (sl_nil (L := []) 1) ?_)
            refine s_on 121 rfl (congrArg Value.bool (decide_eq_true h73)) (o_eql (a := ((0 : Nat) : Int)) (b := 0) rfl rfl ?_)
            refine s_op (o_pick_t (u := (.bool (decide (((0 : Nat) : Int) = 0)))) ((rfl : _ = _).trans (congrArg Value.bool (decide_eq_true h73))) rfl ?_)
            refine s_op (o_move (v := (.bool (decide (((0 : Nat) : Int) = 0)))) rfl ?_)
            by_cases h98 : ((0 : Nat) : Int) = 0
            · -- ((0 : Nat) : Int) = 0
              refine s_on 128 rfl (congrArg Value.bool (decide_eq_true h98)) (o_move (v := (.pointer none)) rfl ?_)
              refine s_on 128 rfl (congrArg Value.bool (decide_eq_true h98)) (o_callf (vs := #[(.pointer none)]) ca19 rfl (args1 rfl) (shead_nil hH96.all ) ?_)
              rintro _ w101 ⟨rfl, hX99⟩
              refine ⟨_, rfl, ?_⟩
              have hH100 := hX99.of_all
              refine s_on 128 rfl (congrArg Value.bool (decide_eq_true h98)) (o_sight (v := (.agg #[(.int .i64 0), (.int .i64 0), (.int .i64 0), (.int .i64 0), (.int .i64 0)])) (fun _ => by kernel_rfl) ?_)
              refine s_on 128 rfl (congrArg Value.bool (decide_eq_true h98)) (o_eql23 hdZ.seq hdZ.ep hdZ.cut hdZ.st hdZ.mrk (0 : Int) (0 : Int) (0 : Int) (0 : Int) (0 : Int) rfl rfl ?_)
              refine s_op (o_pick_t (u := (.bool (eqv23 hdZ.seq hdZ.ep hdZ.cut hdZ.st hdZ.mrk (0 : Int) (0 : Int) (0 : Int) (0 : Int) (0 : Int)))) ((rfl : _ = _).trans (congrArg Value.bool (decide_eq_true h98))) rfl ?_)
              refine s_op (o_move (v := (.bool (eqv23 hdZ.seq hdZ.ep hdZ.cut hdZ.st hdZ.mrk (0 : Int) (0 : Int) (0 : Int) (0 : Int) (0 : Int)))) rfl ?_)
              rcases Bool.eq_false_or_eq_true (eqv23 hdZ.seq hdZ.ep hdZ.cut hdZ.st hdZ.mrk (0 : Int) (0 : Int) (0 : Int) (0 : Int) (0 : Int)) with h102 | h102
              · -- eqv23 hdZ.seq hdZ.ep hdZ.cut hdZ.st hdZ.mrk (0 : Int) (0 : Int) (0 : Int) (0 : Int) (0 : Int)
                refine s_on 134 rfl (congrArg Value.bool h102) (o_move (v := (.pointer none)) rfl ?_)
                refine s_on 134 rfl (congrArg Value.bool h102) (o_callf (vs := #[(.pointer none)]) ca29 rfl (args1 rfl) (slast_nil hH100.all ) ?_)
                rintro _ w105 ⟨rfl, hX103⟩
                refine ⟨_, rfl, ?_⟩
                have hH104 := hX103.of_all
                refine s_on 134 rfl (congrArg Value.bool h102) (o_eql (a := 0) (b := 0) rfl rfl ?_)
                refine s_op (o_pick_t (u := (.bool (decide ((0 : Int) = (0 : Int))))) ((rfl : _ = _).trans (congrArg Value.bool h102)) rfl ?_)
                refine s_op (o_move (v := (.bool (decide ((0 : Int) = (0 : Int))))) rfl ?_)
                by_cases h106 : (0 : Int) = (0 : Int)
                · -- (0 : Int) = (0 : Int)
                  refine s_on 139 rfl (congrArg Value.bool (decide_eq_true h106)) (o_move (v := (.pointer none)) rfl ?_)
                  refine s_on 139 rfl (congrArg Value.bool (decide_eq_true h106)) (o_callf (vs := #[(.pointer none)]) ca18 rfl (args1 rfl) (stail_nil hH104.all ) ?_)
                  rintro _ w109 ⟨rfl, hX107⟩
                  refine ⟨_, rfl, ?_⟩
                  have hH108 := hX107.of_all
                  refine s_on 139 rfl (congrArg Value.bool (decide_eq_true h106)) (o_eql (a := 0) (b := 0) rfl rfl ?_)
                  refine s_op (o_pick_t (u := (.bool (decide ((0 : Int) = (0 : Int))))) ((rfl : _ = _).trans (congrArg Value.bool (decide_eq_true h106))) rfl ?_)
                  refine s_op (o_move (v := (.bool (decide ((0 : Int) = (0 : Int))))) rfl ?_)
                  refine s_on 144 rfl (congrArg Value.bool (decide_eq_true h106)) (o_move (v := (.pointer none)) rfl ?_)
                  refine s_on 144 rfl (congrArg Value.bool (decide_eq_true h106)) (o_callf (vs := #[(.pointer none)]) ca37 rfl (args1 rfl) (sloose_nil hH108.all ) ?_)
                  rintro _ w112 ⟨rfl, hX110⟩
                  refine ⟨_, rfl, ?_⟩
                  have hH111 := hX110.of_all
                  refine s_on 144 rfl (congrArg Value.bool (decide_eq_true h106)) (o_eql (a := 0) (b := 0) rfl rfl ?_)
                  refine s_op (o_pick_t (u := (.bool (decide ((0 : Int) = (0 : Int))))) ((rfl : _ = _).trans (congrArg Value.bool (decide_eq_true h106))) rfl ?_)
                  refine s_op (o_move (v := (.bool (decide ((0 : Int) = (0 : Int))))) rfl ?_)
                  refine s_on 149 rfl (congrArg Value.bool (decide_eq_true h106)) (o_move (v := (.pointer none)) rfl ?_)
                  refine s_on 149 rfl (congrArg Value.bool (decide_eq_true h106)) (o_callf (vs := #[(.pointer none)]) ca38 rfl (args1 rfl) (sfree_nil hH111.all ) ?_)
                  rintro _ w115 ⟨rfl, hX113⟩
                  refine ⟨_, rfl, ?_⟩
                  have hH114 := hX113.of_all
                  refine s_on 149 rfl (congrArg Value.bool (decide_eq_true h106)) (o_eql (a := 0) (b := 0) rfl rfl ?_)
                  refine s_op (o_pick_t (u := (.bool (decide ((0 : Int) = (0 : Int))))) ((rfl : _ = _).trans (congrArg Value.bool (decide_eq_true h106))) rfl ?_)
                  refine s_op (o_move (v := (.bool (decide ((0 : Int) = (0 : Int))))) rfl ?_)
                  refine s_on 154 rfl (congrArg Value.bool (decide_eq_true h106)) (o_move (v := (.pointer none)) rfl ?_)
                  refine s_on 154 rfl (congrArg Value.bool (decide_eq_true h106)) (o_callf (vs := #[(.pointer none)]) ca39 rfl (args1 rfl) (serr_nil hH114.all ) ?_)
                  rintro _ w118 ⟨rfl, hX116⟩
                  refine ⟨_, rfl, ?_⟩
                  have hH117 := hX116.of_all
                  refine s_on 154 rfl (congrArg Value.bool (decide_eq_true h106)) (o_eql (a := 1) (b := 1) rfl rfl ?_)
                  refine s_op (o_pick_t (u := (.bool (decide ((1 : Int) = (1 : Int))))) ((rfl : _ = _).trans (congrArg Value.bool (decide_eq_true h106))) rfl ?_)
                  refine s_op (o_assign (v := (.bool (decide ((1 : Int) = (1 : Int))))) rfl ?_)
                  refine s_nil ?_
                  refine t_norm (hK66 _ _ ?_)
                  refine wp_ret ?_
                  refine c_ret1 Tryz.results5  (v := (.bool (decide ((1 : Int) = (1 : Int))))) rfl ?_
                  have hH119 : Has E w118 [R] := (hH117.front 8 rfl).first 1 rfl
                  exact ⟨by first | rfl | (rw [decide_eq_true (by decide +kernel)]) | (rw [decide_eq_true rfl]), hH119⟩
                · -- not: (0 : Int) = (0 : Int)
                  exact absurd h106 (by decide)
              · -- not: eqv23 hdZ.seq hdZ.ep hdZ.cut hdZ.st hdZ.mrk (0 : Int) (0 : Int) (0 : Int) (0 : Int) (0 : Int)
                exact absurd h102 (by decide)
            · -- not: ((0 : Nat) : Int) = 0
              exact absurd h98 (by decide)
          · -- not: (1 : Int) = (1 : Int)
            exact absurd h73 (by decide)
        · -- not: (6 : Int) = 6
          exact absurd h69 (by decide)
      · -- not: (opE (Dv.mk (Pw.mk false false 0 0) (List.replicate 3 blankS) []) ((((Dv.mk (Pw.mk false false 0 0) (List.replicate 3 blankS) []).la.length : Nat) : Int) - 2)) = 7
        exact absurd (by decide +kernel) h68
    · -- not: (1 : Int) = 1
      exact absurd h67 (by decide)
end Go.Q
namespace Go.Q
theorem arr_cells {H : Type} {enc : TypeId × Value → H} {P : Program} {w : World} {base : Nat} {spare : Nat → Bool} {held : Bool} {fuel n : Nat} {t e : TypeId} {k : IntKind} {cs : List Value} {l : List Int} {p : List MemPlace}
    (ht : P.underlying t = some (.array n e)) (he : P.underlying e = some (.int k)) (hc : P.cellsOf e = 1) (hl : l.length = n)
    (h : DataW.trod enc P w base spare held fuel t cs = some (.agg (l.map fun z => (DataW.lit (Lit.int k z) : DataW H)), p)) : ∀ (i : Nat) (z : Int), l[i]? = some z → cs[i]? = some (Value.int k z) := by
  intro i z hz
  obtain ⟨xs, m, _, hx, _, hn, hel⟩ := DataW.trod_array ht h
  simp only [Prod.mk.injEq, DataW.agg.injEq] at hx
  have hi : i < n := by rw [← hl]; exact (List.getElem?_eq_some_iff.1 hz).1
  have h1 := hel i hi
  rw [hc, Nat.mul_one, List.getElem?_eq_getElem (by omega)] at h1
  obtain ⟨r, e1, e2, _⟩ := DataW.trod_int he h1
  have e3 : (xs.map (·.1))[i]? = some (DataW.lit (Lit.int k z)) := by rw [← hx.1, List.getElem?_map, hz]; rfl
  rw [List.getElem?_map, List.getElem?_eq_getElem (by omega), Option.map_some] at e3
  rw [e2] at e3
  have e4 : r = z := by simpa using e3
  subst e4
  have e5 : (List.take 1 (List.drop i cs))[0]? = some (.int k r) := by rw [e1]; rfl
  rw [List.getElem?_take, if_pos (by omega), List.getElem?_drop] at e5
  simpa using e5
end Go.Q
namespace Go.Q
open Go.Proofs
set_option linter.unusedVariables false
set_option maxRecDepth 100000
attribute [local irreducible] wpList OK Code.wp
end Go.Q
