/-
  Parts of a walk: what functions of the program compute, each told by a theorem (QvL4, QYD, QvRd).
-/
import Derived.Test.YtcjjknilhceeeaaGreatDoorB5
import Derived.OpenShut
set_option linter.unusedVariables false
set_option linter.unusedSimpArgs false
set_option linter.unnecessarySimpa false
namespace Go.Q
open Go.Proofs
set_option linter.unusedVariables false
set_option maxRecDepth 100000
attribute [local irreducible] wpList OK Code.wp
set_option maxHeartbeats 4000000 in
theorem TwiceOpens_c {E w : World} {R : List Hp} (hH : Has E w [R]) (hg : CellsAt R 1 0 nibV) (nt cp hm : Bs) {no : Int} :
    Calls Tryz.prog 6 #[(S nt), (S cp), (S hm), (.int .i64 no)] w fun e w' => e = .returned (.bool true) ∧ Has E w' [R] := by
  refine c_enter (args := [(S nt), (S cp), (S hm), (.int .i64 no)]) Tryz.func6 rfl Tryz.ntmps6 (by simp) ?_
  refine wp_seq_k fun K1 hK1 => ?_
  refine c_region ?_
  refine s_op (o_assign (v := (.bool false)) rfl ?_)
  refine s_nil ?_
  refine t_norm (hK1 _ _ ?_)
  refine wp_seq_k fun K2 hK2 => ?_
  refine wp_seq_k fun K3 hK3 => ?_
  refine c_region ?_
  refine s_op (o_move (v := (S nt)) rfl ?_)
  refine s_op (o_slen Tryz.underlying9 rfl ?_)
  refine s_op (o_gtr (a := (nt.length : Int)) (b := 64) rfl rfl ?_)
  refine s_op (o_move (v := (.bool (decide (64 < (nt.length : Int))))) rfl ?_)
  by_cases h4 : 64 < (nt.length : Int)
  · -- 64 < (nt.length : Int)
    refine s_off (b' := true) 30 rfl (congrArg Value.bool (decide_eq_true h4)) rfl ?_
    refine s_off (b' := true) 30 rfl (congrArg Value.bool (decide_eq_true h4)) rfl ?_
    refine s_off (b' := true) 30 rfl (congrArg Value.bool (decide_eq_true h4)) rfl ?_
    refine s_op (o_pick_t (u := (.bool true)) ((rfl : _ = _).trans (congrArg Value.bool (decide_eq_true h4))) rfl ?_)
    refine s_op (o_move (v := (.bool true)) rfl ?_)
    refine s_off (b' := true) 35 rfl rfl rfl ?_
    refine s_off (b' := true) 35 rfl rfl rfl ?_
    refine s_off (b' := true) 35 rfl rfl rfl ?_
    refine s_op (o_pick_t (u := (.bool true)) rfl rfl ?_)
    refine s_op (o_move (v := (.bool true)) rfl ?_)
    refine s_off (b' := true) 40 rfl rfl rfl ?_
    refine s_off (b' := true) 40 rfl rfl rfl ?_
    refine s_op (o_pick_t (u := (.bool true)) rfl rfl ?_)
    refine s_nil ?_
    refine t_norm (hK3 _ _ ?_)
    refine c_true rfl rfl ?_
    refine wp_seq_k fun K5 hK5 => ?_
    refine c_region ?_
    refine s_op (o_callf (vs := #[]) ca11 rfl (args0) (awake12_c hH.all (hg.mono (seg_sub 0 rfl))) ?_)
    rintro _ w8 ⟨rfl, hX6⟩
    refine ⟨_, rfl, ?_⟩
    have hH7 := hX6.of_all
    refine s_op (o_assign (v := (.bool true)) rfl ?_)
    refine s_nil ?_
    refine t_norm (hK5 _ _ ?_)
    refine wp_ret ?_
    refine t_ret (c_ret1 Tryz.results6  (v := (.bool true)) rfl ?_)
    exact ⟨by first | rfl | (rw [decide_eq_true hS_]) | (rw [decide_eq_true hm9_]), hH7⟩
  · -- not: 64 < (nt.length : Int)
    refine s_on 30 rfl (congrArg Value.bool (decide_eq_false h4)) (o_move (v := (S cp)) rfl ?_)
    refine s_on 30 rfl (congrArg Value.bool (decide_eq_false h4)) (o_slen Tryz.underlying9 rfl ?_)
    refine s_on 30 rfl (congrArg Value.bool (decide_eq_false h4)) (o_gtr (a := (cp.length : Int)) (b := 256) rfl rfl ?_)
    refine s_op (o_pick_f (u := (.bool (decide (256 < (cp.length : Int))))) ((rfl : _ = _).trans (congrArg Value.bool (decide_eq_false h4))) rfl ?_)
    refine s_op (o_move (v := (.bool (decide (256 < (cp.length : Int))))) rfl ?_)
    by_cases h9 : 256 < (cp.length : Int)
    · -- 256 < (cp.length : Int)
      refine s_off (b' := true) 35 rfl (congrArg Value.bool (decide_eq_true h9)) rfl ?_
      refine s_off (b' := true) 35 rfl (congrArg Value.bool (decide_eq_true h9)) rfl ?_
      refine s_off (b' := true) 35 rfl (congrArg Value.bool (decide_eq_true h9)) rfl ?_
      refine s_op (o_pick_t (u := (.bool true)) ((rfl : _ = _).trans (congrArg Value.bool (decide_eq_true h9))) rfl ?_)
      refine s_op (o_move (v := (.bool true)) rfl ?_)
      refine s_off (b' := true) 40 rfl rfl rfl ?_
      refine s_off (b' := true) 40 rfl rfl rfl ?_
      refine s_op (o_pick_t (u := (.bool true)) rfl rfl ?_)
      refine s_nil ?_
      refine t_norm (hK3 _ _ ?_)
      refine c_true rfl rfl ?_
      refine wp_seq_k fun K10 hK10 => ?_
      refine c_region ?_
      refine s_op (o_callf (vs := #[]) ca11 rfl (args0) (awake12_c hH.all (hg.mono (seg_sub 0 rfl))) ?_)
      rintro _ w13 ⟨rfl, hX11⟩
      refine ⟨_, rfl, ?_⟩
      have hH12 := hX11.of_all
      refine s_op (o_assign (v := (.bool true)) rfl ?_)
      refine s_nil ?_
      refine t_norm (hK10 _ _ ?_)
      refine wp_ret ?_
      refine t_ret (c_ret1 Tryz.results6  (v := (.bool true)) rfl ?_)
      exact ⟨by first | rfl | (rw [decide_eq_true hS_]) | (rw [decide_eq_true hm9_]), hH12⟩
    · -- not: 256 < (cp.length : Int)
      refine s_on 35 rfl (congrArg Value.bool (decide_eq_false h9)) (o_move (v := (S hm)) rfl ?_)
      refine s_on 35 rfl (congrArg Value.bool (decide_eq_false h9)) (o_slen Tryz.underlying9 rfl ?_)
      refine s_on 35 rfl (congrArg Value.bool (decide_eq_false h9)) (o_gtr (a := (hm.length : Int)) (b := 256) rfl rfl ?_)
      refine s_op (o_pick_f (u := (.bool (decide (256 < (hm.length : Int))))) ((rfl : _ = _).trans (congrArg Value.bool (decide_eq_false h9))) rfl ?_)
      refine s_op (o_move (v := (.bool (decide (256 < (hm.length : Int))))) rfl ?_)
      by_cases h14 : 256 < (hm.length : Int)
      · -- 256 < (hm.length : Int)
        refine s_off (b' := true) 40 rfl (congrArg Value.bool (decide_eq_true h14)) rfl ?_
        refine s_off (b' := true) 40 rfl (congrArg Value.bool (decide_eq_true h14)) rfl ?_
        refine s_op (o_pick_t (u := (.bool true)) ((rfl : _ = _).trans (congrArg Value.bool (decide_eq_true h14))) rfl ?_)
        refine s_nil ?_
        refine t_norm (hK3 _ _ ?_)
        refine c_true rfl rfl ?_
        refine wp_seq_k fun K15 hK15 => ?_
        refine c_region ?_
        refine s_op (o_callf (vs := #[]) ca11 rfl (args0) (awake12_c hH.all (hg.mono (seg_sub 0 rfl))) ?_)
        rintro _ w18 ⟨rfl, hX16⟩
        refine ⟨_, rfl, ?_⟩
        have hH17 := hX16.of_all
        refine s_op (o_assign (v := (.bool true)) rfl ?_)
        refine s_nil ?_
        refine t_norm (hK15 _ _ ?_)
        refine wp_ret ?_
        refine t_ret (c_ret1 Tryz.results6  (v := (.bool true)) rfl ?_)
        exact ⟨by first | rfl | (rw [decide_eq_true hS_]) | (rw [decide_eq_true hm9_]), hH17⟩
      · -- not: 256 < (hm.length : Int)
        refine s_on 40 rfl (congrArg Value.bool (decide_eq_false h14)) (o_callf (vs := #[]) ca11 rfl (args0) (awake12_c hH.all (hg.mono (seg_sub 0 rfl))) ?_)
        rintro _ w21 ⟨rfl, hX19⟩
        refine ⟨_, rfl, ?_⟩
        have hH20 := hX19.of_all
        refine s_on 40 rfl (congrArg Value.bool (decide_eq_false h14)) (o_not rfl ?_)
        refine s_op (o_pick_f (u := (.bool false)) ((rfl : _ = _).trans (congrArg Value.bool (decide_eq_false h14))) rfl ?_)
        refine s_nil ?_
        refine t_norm (hK3 _ _ ?_)
        refine c_false rfl rfl ?_
        refine wp_skip ?_
        refine t_norm (hK2 _ _ ?_)
        refine wp_seq_k fun K22 hK22 => ?_
        refine c_region ?_
        refine s_op (o_move (v := (.int .i64 no)) rfl ?_)
        have hw23 := wrap_u64 no
        refine s_op (o_conv (c := (IntKind.wrap .u64 no)) Tryz.underlying3 Tryz.underlying52 rfl rfl ?_)
        refine s_op (o_rem (a := IntKind.wrap .u64 no) (b := 3) (c := (IntKind.wrap .u64 no) % 3) rfl rfl (by omega) ((Int.tmod_eq_emod_of_nonneg (by first | exact Int.natCast_nonneg _ | omega))) ?_)
        refine s_op (o_conv (c := ((IntKind.wrap .u64 no) % 3)) Tryz.underlying52 Tryz.underlying3 rfl (w64 (by omega) (by omega)) ?_)
        refine s_op (o_assign (v := (.int .i64 ((IntKind.wrap .u64 no) % 3))) rfl ?_)
        refine s_nil ?_
        refine t_norm (hK22 _ _ ?_)
        refine wp_seq_k fun K24 hK24 => ?_
        refine c_region ?_
        refine s_op (o_callf (vs := #[(.pointer none), (.int .i64 17)]) ca14 rfl (args2 rfl rfl) (new_nil hH20.all (n := 17) (by decide)) ?_)
        rintro _ w31 ⟨db25, pb26, sg27, rfl, hd28, hX29⟩
        refine ⟨_, rfl, ?_⟩
        have hH30 : Has E w31 [sg27, [Hp.one pb26 (.cells #[(.bool (Pw.mk false false 0 0).off), (.bool (Pw.mk false false 0 0).armed), (.int .i64 (Pw.mk false false 0 0).left), (.int .i64 (Pw.mk false false 0 0).uses)] 101 (0, 0))], R] := hX29.of_all2
        refine s_op (o_assign (v := (.pointer (some ⟨db25, 0, none⟩))) rfl ?_)
        refine s_nil ?_
        refine t_norm (hK24 _ _ ?_)
        refine wp_seq_k fun K32 hK32 => ?_
        refine c_region ?_
        refine s_op (o_move (v := (.pointer (some ⟨db25, 0, none⟩))) rfl ?_)
        refine s_op (o_move (v := (S nt)) rfl ?_)
        refine s_op (o_callf (vs := #[(.pointer (some ⟨db25, 0, none⟩)), (.int .i64 0), (S nt)]) ca29 rfl (args3 rfl rfl rfl) (put0_d (p := (Pw.mk false false 0 0)) (la := (List.replicate 17 blankS)) ((hH30.front 1 rfl).front 1 rfl).all2 hd28 0 nt (by omega)) ?_)
        rintro _ w37 ⟨sg33, rfl, hd34, hX35⟩
        refine ⟨_, rfl, ?_⟩
        have hH36 : Has E w37 [sg33, [Hp.one pb26 (.cells #[(.bool (Pw.mk false false 0 0).off), (.bool (Pw.mk false false 0 0).armed), (.int .i64 (Pw.mk false false 0 0).left), (.int .i64 (Pw.mk false false 0 0).uses)] 101 (0, 0))], R] := hX35.of_all2
        refine s_nil ?_
        refine t_norm (hK32 _ _ ?_)
        refine wp_seq_k fun K38 hK38 => ?_
        refine c_region ?_
        refine s_op (o_move (v := (S nt)) rfl ?_)
        refine s_op (o_move (v := (S nt)) rfl ?_)
        refine s_op (o_slen Tryz.underlying9 rfl ?_)
        refine s_op (o_sub (a := 64) (b := (nt.length : Int)) rfl rfl (w64 (by omega) (by omega)) ?_)
        refine s_op (o_make Tryz.underlying54 ti5 rfl rfl (by omega) (by omega) (by omega) (by omega) hH36 fun v39 s40 w42 ho41 hH43 => ?_)
        have ho44 : Own 5 1 v39 (List.replicate (64 - (nt.length : Int)).toNat (0 : UInt8)).length ((List.replicate (64 - (nt.length : Int)).toNat (0 : UInt8)).map bV) s40 := by rw [List.length_replicate, List.map_replicate, ← made_rep]; exact ho41
        obtain ⟨p45, c46, rfl⟩ := (Own.sl ho41).form
        refine s_op (o_bstr Tryz.underlying54 Tryz.underlying5 Tryz.underlying9 rfl ho44.sl hH43 (seg_sub 0 rfl) ?_)
        refine s_op (o_sadd rfl rfl (by simp; omega) ?_)
        refine s_op (o_assign (v := (S (nt ++ (List.replicate (64 - (nt.length : Int)).toNat (0 : UInt8))))) rfl ?_)
        refine s_nil ?_
        refine t_norm (hK38 _ _ ?_)
        refine wp_seq_k fun K47 hK47 => ?_
        refine c_region ?_
        refine s_op (o_move (v := (.pointer (some ⟨db25, 0, none⟩))) rfl ?_)
        refine s_op (o_move (v := (S cp)) rfl ?_)
        have hln0_ : (putA (List.replicate 17 blankS) 0 nt).length = 17 := by rw [putA_len, List.length_replicate]
        refine s_op (o_callf (vs := #[(.pointer (some ⟨db25, 0, none⟩)), (.int .i64 1), (S cp)]) ca30 rfl (args3 rfl rfl rfl) (put12_c (p := (Pw.mk false false 0 0)) (la := (putA (List.replicate 17 blankS) 0 nt)) ((hH43.front 2 rfl).front 2 rfl).all2 hd34 (x := 1) (by rw [hln0_]; omega) (by rw [hln0_]; decide) (s := cp) (by omega)) ?_)
        rintro _ w56 ⟨la50, bz51, sg48, rfl, ⟨hla52, hbz53⟩, hd49, hX54⟩
        refine ⟨_, rfl, ?_⟩
        have hH55 : Has E w56 [sg48, [Hp.one pb26 (.cells #[(.bool (Pw.mk false false 0 0).off), (.bool (Pw.mk false false 0 0).armed), (.int .i64 (Pw.mk false false 0 0).left), (.int .i64 (Pw.mk false false 0 0).uses)] 101 (0, 0))], s40, R] := hX54.of_all2
        have hlnla50 : la50.length = 17 := by rw [hla52, appl_len, hln0_]
        refine s_op (o_assign (v := (S bz51)) rfl ?_)
        refine s_nil ?_
        refine t_norm (hK47 _ _ ?_)
        refine wp_seq_k fun K57 hK57 => ?_
        refine c_region ?_
        refine s_op (o_move (v := (.pointer (some ⟨db25, 0, none⟩))) rfl ?_)
        refine s_op (o_move (v := (.int .i64 ((IntKind.wrap .u64 no) % 3))) rfl ?_)
        refine s_op (o_mul (a := 4) (b := (IntKind.wrap .u64 no) % 3) rfl rfl (w64 (by omega) (by omega)) ?_)
        refine s_op (o_add (a := 5) (b := 4 * ((IntKind.wrap .u64 no) % 3)) rfl rfl (w64 (by omega) (by omega)) ?_)
        refine s_op (o_move (v := (S hm)) rfl ?_)
        refine s_op (o_callf (vs := #[(.pointer (some ⟨db25, 0, none⟩)), (.int .i64 (5 + (4 * ((IntKind.wrap .u64 no) % 3)))), (S hm)]) ca30 rfl (args3 rfl rfl rfl) (put12_c (p := (Pw.mk false false 0 0)) (la := la50) ((hH55.front 1 rfl).front 1 rfl).all2 hd49 (x := 5 + (4 * ((IntKind.wrap .u64 no) % 3))) (by rw [hlnla50]; omega) (by rw [hlnla50]; decide) (s := hm) (by omega)) ?_)
        rintro _ w66 ⟨la60, bz61, sg58, rfl, ⟨hla62, hbz63⟩, hd59, hX64⟩
        refine ⟨_, rfl, ?_⟩
        have hH65 : Has E w66 [sg58, [Hp.one pb26 (.cells #[(.bool (Pw.mk false false 0 0).off), (.bool (Pw.mk false false 0 0).armed), (.int .i64 (Pw.mk false false 0 0).left), (.int .i64 (Pw.mk false false 0 0).uses)] 101 (0, 0))], s40, R] := hX64.of_all2
        have hlnla60 : la60.length = 17 := by rw [hla62, appl_len, hlnla50]
        refine s_op (o_assign (v := (S bz61)) rfl ?_)
        refine s_nil ?_
        refine t_norm (hK57 _ _ ?_)
        refine wp_seq_k fun K67 hK67 => ?_
        refine c_region ?_
        refine s_op (o_move (v := (.pointer (some ⟨db25, 0, none⟩))) rfl ?_)
        have hC_ : bz51.length = 256 := by rw [hbz53]; exact bz_len (by omega)
        have hH_ : bz61.length = 256 := by rw [hbz63]; exact bz_len (by omega)
        have hNz_ : nt ++ (List.replicate (64 - (nt.length : Int)).toNat (0 : UInt8)) = bz nt 64 := by unfold bz zer; congr 2; omega
        have hNl_ : (nt ++ (List.replicate (64 - (nt.length : Int)).toNat (0 : UInt8))).length = 64 := by rw [hNz_]; exact bz_len (by omega)
        rw [← hbz53] at hla52
        rw [← hbz63] at hla62
        have hTO : TO la60 (nt ++ (List.replicate (64 - (nt.length : Int)).toNat (0 : UInt8))) bz51 bz61 ((IntKind.wrap .u64 no) % 3) := by rw [hla62, hla52, hNz_]; exact to_start (by omega) (by omega) hC_ hH_
        have hkk_ : 0 ≤ (IntKind.wrap .u64 no) % 3 ∧ (IntKind.wrap .u64 no) % 3 ≤ 2 := ⟨by omega, by omega⟩
        have hre1_ : readR bz51 = readP bz51 := (read_eq bz51).symm
        have hre2_ : readR bz61 = readP bz61 := (read_eq bz61).symm
        obtain ⟨x0, hx0⟩ : ∃ x_, (nt ++ (List.replicate (64 - (nt.length : Int)).toNat (0 : UInt8)))[0]? = some x_ := ⟨_, List.getElem?_eq_getElem (by rw [hNl_]; decide)⟩
        by_cases hc68 : nt ++ (List.replicate (64 - (nt.length : Int)).toNat (0 : UInt8)) = zer 64
        · -- yes
          have hm_ := to_A (p := (Pw.mk false false 0 0)) hTO hc68 rfl
          have hlo_ : (mendR (Dv.mk (Pw.mk false false 0 0) la60 []) 3).2.lo = [] := by rw [hm_]
          have hon_ : (mendR (Dv.mk (Pw.mk false false 0 0) la60 []) 3).2.p.off = false := by rw [hm_]
          have hTF : TO (mendR (Dv.mk (Pw.mk false false 0 0) la60 []) 3).2.la (zer 64) bz51 bz61 ((IntKind.wrap .u64 no) % 3) := by rw [hm_]; have h_ := hTO; rw [hc68] at h_; exact h_
          have h64_ := hTF.full
          have hln_ := hTF.len
          refine s_op (o_callf (vs := #[(.pointer (some ⟨db25, 0, none⟩)), (.int .i64 3)]) ca21 rfl (args2 rfl rfl) (topen_ok (d := (Dv.mk (Pw.mk false false 0 0) la60 [])) ((hH65.front 1 rfl).front 1 rfl).all2 hd59 (n := 3) Few.new (by omega) rfl (by show la60.length ≤ 4096; rw [hlnla60]; decide) ⟨by decide, by decide⟩ (by show (5 : Int) + 3 * 4 ≤ ((la60.length : Nat) : Int); rw [hlnla60]; decide) (hg.mono (seg_sub 1 rfl)) hTO.full rfl (by rw [hm_])) ?_)
          rintro _ w74 ⟨tb71, sg69, rfl, hd70, hX72⟩
          refine ⟨_, rfl, ?_⟩
          have hH73 : Has E w74 [[Hp.one tb71 (.cells #[(.pointer (some ⟨db25, 0, none⟩)), (.int .i64 3)] 98 (0, 0))], sg69, [Hp.one pb26 (.cells #[(.bool ((mendR (Dv.mk (Pw.mk false false 0 0) la60 []) 3).2).p.off), (.bool ((mendR (Dv.mk (Pw.mk false false 0 0) la60 []) 3).2).p.armed), (.int .i64 ((mendR (Dv.mk (Pw.mk false false 0 0) la60 []) 3).2).p.left), (.int .i64 ((mendR (Dv.mk (Pw.mk false false 0 0) la60 []) 3).2).p.uses)] 101 (0, 0))], s40, R] := hX72.of_all3
          refine s_op (o_move (v := (.tuple #[(.pointer (some ⟨tb71, 0, none⟩)), (.int .i64 (0 : Int))])) rfl ?_)
          refine s_op (o_extract (v := (.pointer (some ⟨tb71, 0, none⟩))) rfl rfl ?_)
          refine s_op (o_extract (v := (.int .i64 (0 : Int))) rfl rfl ?_)
          refine s_op (o_assign (v := (.pointer (some ⟨tb71, 0, none⟩))) rfl ?_)
          refine s_op (o_assign (v := (.int .i64 (0 : Int))) rfl ?_)
          refine s_nil ?_
          refine t_norm (hK67 _ _ ?_)
          refine wp_seq_k fun K75 hK75 => ?_
          refine c_region ?_
          refine s_op (o_make Tryz.underlying54 ti5 rfl rfl (by omega) (by omega) (by omega) (by omega) hH73 fun v76 s77 w79 ho78 hH80 => ?_)
          have ho81 : Own 5 1 v76 (List.replicate ((256 : Int)).toNat (0 : UInt8)).length ((List.replicate ((256 : Int)).toNat (0 : UInt8)).map bV) s77 := by rw [List.length_replicate, List.map_replicate, ← made_rep]; exact ho78
          obtain ⟨p82, c83, rfl⟩ := (Own.sl ho78).form
          refine s_op (o_bstr Tryz.underlying54 Tryz.underlying5 Tryz.underlying9 rfl ho81.sl hH80 (seg_sub 0 rfl) ?_)
          refine s_op (o_assign (v := (S (List.replicate ((256 : Int)).toNat (0 : UInt8)))) rfl ?_)
          refine s_nil ?_
          refine t_norm (hK75 _ _ ?_)
          refine wp_seq_k fun K84 hK84 => ?_
          refine wp_seq_k fun K85 hK85 => ?_
          refine c_region ?_
          refine s_op (o_move (v := (S (nt ++ (List.replicate (64 - (nt.length : Int)).toNat (0 : UInt8))))) rfl ?_)
          refine s_op (o_move (v := (S (List.replicate ((256 : Int)).toNat (0 : UInt8)))) rfl ?_)
          refine s_op (o_ssl_h Tryz.underlying9 rfl rfl (by omega) (by first | omega | (simp only [List.length_append, List.length_replicate]; omega)) ?_)
          refine s_op (o_sneq (a := nt ++ (List.replicate (64 - (nt.length : Int)).toNat (0 : UInt8))) (b := (List.replicate ((256 : Int)).toNat (0 : UInt8)).take 64) rfl rfl ?_)
          refine s_nil ?_
          refine t_norm (hK85 _ _ ?_)
          refine c_cond rfl (fun h86 => ?_) (fun h86 => ?_)
          · -- nt ++ (List.replicate (64 - (nt.length : Int)).toNat (0 : UInt8)) ≠ (List.replicate ((256 : Int)).toNat (0 : UInt8)).take 64
            exact absurd (hc68.trans (zer_take 256 64 (by decide)).symm) h86
          · -- not: nt ++ (List.replicate (64 - (nt.length : Int)).toNat (0 : UInt8)) ≠ (List.replicate ((256 : Int)).toNat (0 : UInt8)).take 64
            refine wp_skip ?_
            refine t_norm (hK84 _ _ ?_)
            refine wp_seq_k fun K87 hK87 => ?_
            refine wp_seq_k fun K88 hK88 => ?_
            refine c_region ?_
            refine s_op (o_move (v := (.pointer (some ⟨tb71, 0, none⟩))) rfl ?_)
            refine s_op (o_pnil (p := some _) Tryz.underlying25 rfl rfl ?_)
            refine s_op (o_move (v := (.bool false)) rfl ?_)
            refine s_on 141 rfl rfl (o_move (v := (.int .i64 (0 : Int))) rfl ?_)
            refine s_on 141 rfl rfl (o_neq (a := (0 : Int)) (b := 0) rfl rfl ?_)
            refine s_op (o_pick_f (u := (.bool false)) rfl rfl ?_)
            refine s_nil ?_
            refine t_norm (hK88 _ _ ?_)
            refine c_false rfl rfl ?_
            refine wp_skip ?_
            refine t_norm (hK87 _ _ ?_)
            refine wp_seq_k fun K89 hK89 => ?_
            refine c_region ?_
            refine s_op (o_move (v := (.pointer (some ⟨db25, 0, none⟩))) rfl ?_)
            refine s_op (o_callf (vs := #[(.pointer (some ⟨db25, 0, none⟩)), (.int .i64 0)]) ca32 rfl (args2 rfl rfl) (read_d (p := ((mendR (Dv.mk (Pw.mk false false 0 0) la60 []) 3).2).p) (la := ((mendR (Dv.mk (Pw.mk false false 0 0) la60 []) 3).2).la) (lo := ((mendR (Dv.mk (Pw.mk false false 0 0) la60 []) 3).2).lo) ((hH80.front 3 rfl).front 3 rfl).all2 hd70 0) ?_)
            rintro _ w92 ⟨rfl, hX90⟩
            refine ⟨_, rfl, ?_⟩
            have hH91 : Has E w92 [sg69, [Hp.one pb26 (.cells #[(.bool ((mendR (Dv.mk (Pw.mk false false 0 0) la60 []) 3).2).p.off), (.bool ((mendR (Dv.mk (Pw.mk false false 0 0) la60 []) 3).2).p.armed), (.int .i64 ((mendR (Dv.mk (Pw.mk false false 0 0) la60 []) 3).2).p.left), (.int .i64 ((mendR (Dv.mk (Pw.mk false false 0 0) la60 []) 3).2).p.uses)] 101 (0, 0))], s77, [Hp.one tb71 (.cells #[(.pointer (some ⟨db25, 0, none⟩)), (.int .i64 3)] 98 (0, 0))], s40, R] := hX90.of_all2
            refine s_op (o_move (v := (.tuple #[(S (readS (((mendR (Dv.mk (Pw.mk false false 0 0) la60 []) 3).2).p) (((mendR (Dv.mk (Pw.mk false false 0 0) la60 []) 3).2).la) (((mendR (Dv.mk (Pw.mk false false 0 0) la60 []) 3).2).lo) 0)), (.int .i64 (readE (((mendR (Dv.mk (Pw.mk false false 0 0) la60 []) 3).2).p) (((mendR (Dv.mk (Pw.mk false false 0 0) la60 []) 3).2).la) 0))])) rfl ?_)
            refine s_op (o_extract (v := (S (readS (((mendR (Dv.mk (Pw.mk false false 0 0) la60 []) 3).2).p) (((mendR (Dv.mk (Pw.mk false false 0 0) la60 []) 3).2).la) (((mendR (Dv.mk (Pw.mk false false 0 0) la60 []) 3).2).lo) 0))) rfl rfl ?_)
            refine s_op (o_extract (v := (.int .i64 (readE (((mendR (Dv.mk (Pw.mk false false 0 0) la60 []) 3).2).p) (((mendR (Dv.mk (Pw.mk false false 0 0) la60 []) 3).2).la) 0))) rfl rfl ?_)
            refine s_op (o_assign (v := (S (readS (((mendR (Dv.mk (Pw.mk false false 0 0) la60 []) 3).2).p) (((mendR (Dv.mk (Pw.mk false false 0 0) la60 []) 3).2).la) (((mendR (Dv.mk (Pw.mk false false 0 0) la60 []) 3).2).lo) 0))) rfl ?_)
            refine s_op (o_assign (v := (.int .i64 (readE (((mendR (Dv.mk (Pw.mk false false 0 0) la60 []) 3).2).p) (((mendR (Dv.mk (Pw.mk false false 0 0) la60 []) 3).2).la) 0))) rfl ?_)
            refine s_nil ?_
            refine t_norm (hK89 _ _ ?_)
            refine wp_seq_k fun K93 hK93 => ?_
            refine c_region ?_
            refine s_op (o_move (v := (.pointer (some ⟨tb71, 0, none⟩))) rfl ?_)
            refine s_op (o_move (v := (.int .i64 ((IntKind.wrap .u64 no) % 3))) rfl ?_)
            refine s_op (o_callf (vs := #[(.pointer (some ⟨tb71, 0, none⟩)), (.int .i64 ((IntKind.wrap .u64 no) % 3))]) ca24 rfl (args2 rfl rfl) (tpage_on (d := (mendR (Dv.mk (Pw.mk false false 0 0) la60 []) 3).2) (n := 3) (((hH91.front 3 rfl).front 2 rfl).front 2 rfl).all3 hd70 hlo_ hon_ h64_ (by rw [hln_]; decide) ⟨by decide, by decide⟩ (by rw [hln_]; decide) (hg.mono (seg_sub 2 rfl)) (x := (IntKind.wrap .u64 no) % 3) ⟨by omega, by omega⟩) ?_)
            rintro _ w99 ⟨v94, hs95, rfl, ho96, hX97⟩
            refine ⟨_, rfl, ?_⟩
            have hH98 : Has E w99 [hs95, sg69, [Hp.one pb26 (.cells #[(.bool ((mendR (Dv.mk (Pw.mk false false 0 0) la60 []) 3).2).p.off), (.bool ((mendR (Dv.mk (Pw.mk false false 0 0) la60 []) 3).2).p.armed), (.int .i64 ((mendR (Dv.mk (Pw.mk false false 0 0) la60 []) 3).2).p.left), (.int .i64 ((mendR (Dv.mk (Pw.mk false false 0 0) la60 []) 3).2).p.uses)] 101 (0, 0))], [Hp.one tb71 (.cells #[(.pointer (some ⟨db25, 0, none⟩)), (.int .i64 3)] 98 (0, 0))], s77, s40, R] := hX97.of_all4
            refine s_op (o_move (v := (.tuple #[(.agg #[(.int .i64 ((pgOf (pgB ((mendR (Dv.mk (Pw.mk false false 0 0) la60 []) 3).2).la (plc ((IntKind.wrap .u64 no) % 3))) ((IntKind.wrap .u64 no) % 3)).1.1)), (.int .i64 ((pgOf (pgB ((mendR (Dv.mk (Pw.mk false false 0 0) la60 []) 3).2).la (plc ((IntKind.wrap .u64 no) % 3))) ((IntKind.wrap .u64 no) % 3)).1.2.1)), v94]), (.int .i64 ((pgOf (pgB ((mendR (Dv.mk (Pw.mk false false 0 0) la60 []) 3).2).la (plc ((IntKind.wrap .u64 no) % 3))) ((IntKind.wrap .u64 no) % 3)).2))])) rfl ?_)
            refine s_op (o_extract (v := (.agg #[(.int .i64 ((pgOf (pgB ((mendR (Dv.mk (Pw.mk false false 0 0) la60 []) 3).2).la (plc ((IntKind.wrap .u64 no) % 3))) ((IntKind.wrap .u64 no) % 3)).1.1)), (.int .i64 ((pgOf (pgB ((mendR (Dv.mk (Pw.mk false false 0 0) la60 []) 3).2).la (plc ((IntKind.wrap .u64 no) % 3))) ((IntKind.wrap .u64 no) % 3)).1.2.1)), v94])) rfl rfl ?_)
            refine s_op (o_extract (v := (.int .i64 ((pgOf (pgB ((mendR (Dv.mk (Pw.mk false false 0 0) la60 []) 3).2).la (plc ((IntKind.wrap .u64 no) % 3))) ((IntKind.wrap .u64 no) % 3)).2))) rfl rfl ?_)
            refine s_op (o_alloc (cs := #[(.int .i64 0), (.int .i64 0), (.slice none 0 0)]) ti36 rfl hH98 fun b100 w101 hH102 => ?_)
            refine s_eff (o_storeN (vs := [(.int .i64 ((pgOf (pgB ((mendR (Dv.mk (Pw.mk false false 0 0) la60 []) 3).2).la (plc ((IntKind.wrap .u64 no) % 3))) ((IntKind.wrap .u64 no) % 3)).1.1)), (.int .i64 ((pgOf (pgB ((mendR (Dv.mk (Pw.mk false false 0 0) la60 []) 3).2).la (plc ((IntKind.wrap .u64 no) % 3))) ((IntKind.wrap .u64 no) % 3)).1.2.1)), v94]) (c' := #[(.int .i64 ((pgOf (pgB ((mendR (Dv.mk (Pw.mk false false 0 0) la60 []) 3).2).la (plc ((IntKind.wrap .u64 no) % 3))) ((IntKind.wrap .u64 no) % 3)).1.1)), (.int .i64 ((pgOf (pgB ((mendR (Dv.mk (Pw.mk false false 0 0) la60 []) 3).2).la (plc ((IntKind.wrap .u64 no) % 3))) ((IntKind.wrap .u64 no) % 3)).1.2.1)), v94]) ti36 rfl rfl rfl rfl (by intro u hu; simp only [List.mem_cons, List.not_mem_nil, or_false] at hu; rcases hu with rfl | rfl | rfl <;> first | rfl | exact ho96.one) (by simp) (by kernel_rfl) (hH102.front 0 rfl) fun w103 hH104 => ?_)
            refine s_op (o_assign (v := (.int .i64 ((pgOf (pgB ((mendR (Dv.mk (Pw.mk false false 0 0) la60 []) 3).2).la (plc ((IntKind.wrap .u64 no) % 3))) ((IntKind.wrap .u64 no) % 3)).2))) rfl ?_)
            refine s_nil ?_
            refine t_norm (hK93 _ _ ?_)
            refine wp_seq_k fun K105 hK105 => ?_
            refine c_region ?_
            refine s_op (o_move (v := (S bz61)) rfl ?_)
            refine s_op (o_callf (vs := #[(S bz61)]) ca31 rfl (args1 rfl) (r11read_c (s := bz61) hH104.all ) ?_)
            rintro _ w111 ⟨v106, s107, rfl, ho108, hX109⟩
            refine ⟨_, rfl, ?_⟩
            have hH110 : Has E w111 [s107, [Hp.one b100 (.cells #[(.int .i64 ((pgOf (pgB ((mendR (Dv.mk (Pw.mk false false 0 0) la60 []) 3).2).la (plc ((IntKind.wrap .u64 no) % 3))) ((IntKind.wrap .u64 no) % 3)).1.1)), (.int .i64 ((pgOf (pgB ((mendR (Dv.mk (Pw.mk false false 0 0) la60 []) 3).2).la (plc ((IntKind.wrap .u64 no) % 3))) ((IntKind.wrap .u64 no) % 3)).1.2.1)), v94] 36 (0, 0))], hs95, sg69, [Hp.one pb26 (.cells #[(.bool ((mendR (Dv.mk (Pw.mk false false 0 0) la60 []) 3).2).p.off), (.bool ((mendR (Dv.mk (Pw.mk false false 0 0) la60 []) 3).2).p.armed), (.int .i64 ((mendR (Dv.mk (Pw.mk false false 0 0) la60 []) 3).2).p.left), (.int .i64 ((mendR (Dv.mk (Pw.mk false false 0 0) la60 []) 3).2).p.uses)] 101 (0, 0))], [Hp.one tb71 (.cells #[(.pointer (some ⟨db25, 0, none⟩)), (.int .i64 3)] 98 (0, 0))], s77, s40, R] := hX109.of_all1
            refine s_op (o_move (v := (.tuple #[(.agg #[(.int .i64 ((readR bz61).2.1)), (.int .i64 ((readR bz61).2.2.1)), v106]), (.bool ((readR bz61).1))])) rfl ?_)
            refine s_op (o_extract (v := (.agg #[(.int .i64 ((readR bz61).2.1)), (.int .i64 ((readR bz61).2.2.1)), v106])) rfl rfl ?_)
            refine s_op (o_extract (v := (.bool ((readR bz61).1))) rfl rfl ?_)
            refine s_op (o_alloc (cs := #[(.int .i64 0), (.int .i64 0), (.slice none 0 0)]) ti36 rfl hH110 fun b112 w113 hH114 => ?_)
            refine s_eff (o_storeN (vs := [(.int .i64 ((readR bz61).2.1)), (.int .i64 ((readR bz61).2.2.1)), v106]) (c' := #[(.int .i64 ((readR bz61).2.1)), (.int .i64 ((readR bz61).2.2.1)), v106]) ti36 rfl rfl rfl rfl (by intro u hu; simp only [List.mem_cons, List.not_mem_nil, or_false] at hu; rcases hu with rfl | rfl | rfl <;> first | rfl | exact ho108.one) (by simp) (by kernel_rfl) (hH114.front 0 rfl) fun w115 hH116 => ?_)
            refine s_op (o_assign (v := (.bool ((readR bz61).1))) rfl ?_)
            refine s_nil ?_
            refine t_norm (hK105 _ _ ?_)
            refine wp_seq_k fun K117 hK117 => ?_
            refine wp_block ?_
            refine wp_seq_k fun K118 hK118 => ?_
            refine c_region ?_
            refine s_op (o_move (v := (S bz61)) rfl ?_)
            refine s_op (o_move (v := (S (List.replicate ((256 : Int)).toNat (0 : UInt8)))) rfl ?_)
            refine s_op (o_seql (a := bz61) (b := (List.replicate ((256 : Int)).toNat (0 : UInt8))) rfl rfl ?_)
            refine s_op (o_assign (v := (.bool (decide (bz61 = (List.replicate ((256 : Int)).toNat (0 : UInt8)))))) rfl ?_)
            refine s_nil ?_
            refine t_norm (hK118 _ _ ?_)
            refine c_cond rfl (fun h119 => ?_) (fun h119 => ?_)
            · -- bz61 = (List.replicate ((256 : Int)).toNat (0 : UInt8))
              have hS_ : readS (mendR (Dv.mk (Pw.mk false false 0 0) la60 []) 3).2.p (mendR (Dv.mk (Pw.mk false false 0 0) la60 []) 3).2.la (mendR (Dv.mk (Pw.mk false false 0 0) la60 []) 3).2.lo 0 = ((List.replicate ((256 : Int)).toNat (0 : UInt8))).take 64 := by rw [(rd_sec (d := (mendR (Dv.mk (Pw.mk false false 0 0) la60 []) 3).2) (n := 0) hlo_ hon_ ⟨by decide, by rw [hln_]; decide⟩).1, hTF.note]; exact (zer_take 256 64 (by decide)).symm
              have hpf_ : pgOf (pgB (mendR (Dv.mk (Pw.mk false false 0 0) la60 []) 3).2.la (plc ((IntKind.wrap .u64 no) % 3))) ((IntKind.wrap .u64 no) % 3) = (((IntKind.wrap .u64 no) % 3, 0, []), 0) := by rw [hTF.home]; exact pgOf_zer h119
              refine wp_seq_k fun K120 hK120 => ?_
              refine c_region ?_
              refine s_op (o_move (v := (.int .i64 ((pgOf (pgB ((mendR (Dv.mk (Pw.mk false false 0 0) la60 []) 3).2).la (plc ((IntKind.wrap .u64 no) % 3))) ((IntKind.wrap .u64 no) % 3)).2))) rfl ?_)
              refine s_op (o_eql (a := (pgOf (pgB ((mendR (Dv.mk (Pw.mk false false 0 0) la60 []) 3).2).la (plc ((IntKind.wrap .u64 no) % 3))) ((IntKind.wrap .u64 no) % 3)).2) (b := 0) rfl rfl ?_)
              refine s_op (o_move (v := (.bool (decide ((pgOf (pgB ((mendR (Dv.mk (Pw.mk false false 0 0) la60 []) 3).2).la (plc ((IntKind.wrap .u64 no) % 3))) ((IntKind.wrap .u64 no) % 3)).2 = 0)))) rfl ?_)
              by_cases h121 : (pgOf (pgB ((mendR (Dv.mk (Pw.mk false false 0 0) la60 []) 3).2).la (plc ((IntKind.wrap .u64 no) % 3))) ((IntKind.wrap .u64 no) % 3)).2 = 0
              · -- (pgOf (pgB ((mendR (Dv.mk (Pw.mk false false 0 0) la60 []) 3).2).la (plc ((IntKind.wrap .u64 no) % 3))) ((IntKind.wrap .u64 no) % 3)).2 = 0
                refine s_on 167 rfl (congrArg Value.bool (decide_eq_true h121)) (o_loadN (cs := [(.int .i64 ((pgOf (pgB ((mendR (Dv.mk (Pw.mk false false 0 0) la60 []) 3).2).la (plc ((IntKind.wrap .u64 no) % 3))) ((IntKind.wrap .u64 no) % 3)).1.1)), (.int .i64 ((pgOf (pgB ((mendR (Dv.mk (Pw.mk false false 0 0) la60 []) 3).2).la (plc ((IntKind.wrap .u64 no) % 3))) ((IntKind.wrap .u64 no) % 3)).1.2.1)), v94]) Tryz.underlying36 rfl ti36 rfl hH116 (seg_sub 2 rfl) (CellsAt.one rfl) ?_)
                refine s_on 167 rfl (congrArg Value.bool (decide_eq_true h121)) (o_move (v := (.int .i64 ((IntKind.wrap .u64 no) % 3))) rfl ?_)
                refine s_on 167 rfl (congrArg Value.bool (decide_eq_true h121)) (o_sight (v := (.agg #[(.int .i64 ((IntKind.wrap .u64 no) % 3)), (.int .i64 0), (.slice none 0 0)])) (fun _ => by kernel_rfl) ?_)
                refine s_on 167 rfl (congrArg Value.bool (decide_eq_true h121)) (o_callf (vs := #[(.agg #[(.int .i64 ((pgOf (pgB ((mendR (Dv.mk (Pw.mk false false 0 0) la60 []) 3).2).la (plc ((IntKind.wrap .u64 no) % 3))) ((IntKind.wrap .u64 no) % 3)).1.1)), (.int .i64 ((pgOf (pgB ((mendR (Dv.mk (Pw.mk false false 0 0) la60 []) 3).2).la (plc ((IntKind.wrap .u64 no) % 3))) ((IntKind.wrap .u64 no) % 3)).1.2.1)), v94]), (.agg #[(.int .i64 ((IntKind.wrap .u64 no) % 3)), (.int .i64 0), (.slice none 0 0)])]) ca25 rfl (args2 rfl rfl) (r11same_c (noa := (pgOf (pgB ((mendR (Dv.mk (Pw.mk false false 0 0) la60 []) 3).2).la (plc ((IntKind.wrap .u64 no) % 3))) ((IntKind.wrap .u64 no) % 3)).1.1) (gsna := (pgOf (pgB ((mendR (Dv.mk (Pw.mk false false 0 0) la60 []) 3).2).la (plc ((IntKind.wrap .u64 no) % 3))) ((IntKind.wrap .u64 no) % 3)).1.2.1) (la := (pgOf (pgB ((mendR (Dv.mk (Pw.mk false false 0 0) la60 []) 3).2).la (plc ((IntKind.wrap .u64 no) % 3))) ((IntKind.wrap .u64 no) % 3)).1.2.2) (nob := (IntKind.wrap .u64 no) % 3) (gsnb := 0) (lb := ([] : List Cel)) hH116.all (ho96.sl.mono (seg_sub 3 rfl)) (sl_nil 2)) ?_)
                rintro _ w124 ⟨rfl, hX122⟩
                refine ⟨_, rfl, ?_⟩
                have hH123 := hX122.of_all
                refine s_op (o_pick_t (u := (.bool (decide (((pgOf (pgB ((mendR (Dv.mk (Pw.mk false false 0 0) la60 []) 3).2).la (plc ((IntKind.wrap .u64 no) % 3))) ((IntKind.wrap .u64 no) % 3)).1.1) = ((IntKind.wrap .u64 no) % 3) ∧ ((pgOf (pgB ((mendR (Dv.mk (Pw.mk false false 0 0) la60 []) 3).2).la (plc ((IntKind.wrap .u64 no) % 3))) ((IntKind.wrap .u64 no) % 3)).1.2.1) = 0 ∧ ((pgOf (pgB ((mendR (Dv.mk (Pw.mk false false 0 0) la60 []) 3).2).la (plc ((IntKind.wrap .u64 no) % 3))) ((IntKind.wrap .u64 no) % 3)).1.2.2) = ([] : List Cel))))) ((rfl : _ = _).trans (congrArg Value.bool (decide_eq_true h121))) rfl ?_)
                refine s_op (o_move (v := (.bool (decide (((pgOf (pgB ((mendR (Dv.mk (Pw.mk false false 0 0) la60 []) 3).2).la (plc ((IntKind.wrap .u64 no) % 3))) ((IntKind.wrap .u64 no) % 3)).1.1) = ((IntKind.wrap .u64 no) % 3) ∧ ((pgOf (pgB ((mendR (Dv.mk (Pw.mk false false 0 0) la60 []) 3).2).la (plc ((IntKind.wrap .u64 no) % 3))) ((IntKind.wrap .u64 no) % 3)).1.2.1) = 0 ∧ ((pgOf (pgB ((mendR (Dv.mk (Pw.mk false false 0 0) la60 []) 3).2).la (plc ((IntKind.wrap .u64 no) % 3))) ((IntKind.wrap .u64 no) % 3)).1.2.2) = ([] : List Cel))))) rfl ?_)
                rcases Bool.eq_false_or_eq_true (decide (((pgOf (pgB ((mendR (Dv.mk (Pw.mk false false 0 0) la60 []) 3).2).la (plc ((IntKind.wrap .u64 no) % 3))) ((IntKind.wrap .u64 no) % 3)).1.1) = ((IntKind.wrap .u64 no) % 3) ∧ ((pgOf (pgB ((mendR (Dv.mk (Pw.mk false false 0 0) la60 []) 3).2).la (plc ((IntKind.wrap .u64 no) % 3))) ((IntKind.wrap .u64 no) % 3)).1.2.1) = 0 ∧ ((pgOf (pgB ((mendR (Dv.mk (Pw.mk false false 0 0) la60 []) 3).2).la (plc ((IntKind.wrap .u64 no) % 3))) ((IntKind.wrap .u64 no) % 3)).1.2.2) = ([] : List Cel))) with h125 | h125
                · -- (decide (((pgOf (pgB ((mendR (Dv.mk (Pw.mk false false 0 0) la60 []) 3).2).la (plc ((IntKind.wrap .u64 no) % 3))) ((IntKind.wrap .u64 no) % 3)).1.1) = ((IntKind.wrap .u64 no) % 3) ∧ ((pgOf (pgB ((mendR (Dv.mk (Pw.mk false false 0 0) la60 []) 3).2).la (plc ((IntKind.wrap .u64 no) % 3))) ((IntKind.wrap .u64 no) % 3)).1.2.1) = 0 ∧ ((pgOf (pgB ((mendR (Dv.mk (Pw.mk false false 0 0) la60 []) 3).2).la (plc ((IntKind.wrap .u64 no) % 3))) ((IntKind.wrap .u64 no) % 3)).1.2.2) = ([] : List Cel)))
                  refine s_on 173 rfl (congrArg Value.bool h125) (o_move (v := (S (readS (((mendR (Dv.mk (Pw.mk false false 0 0) la60 []) 3).2).p) (((mendR (Dv.mk (Pw.mk false false 0 0) la60 []) 3).2).la) (((mendR (Dv.mk (Pw.mk false false 0 0) la60 []) 3).2).lo) 0))) rfl ?_)
                  refine s_on 173 rfl (congrArg Value.bool h125) (o_move (v := (S (List.replicate ((256 : Int)).toNat (0 : UInt8)))) rfl ?_)
                  refine s_on 173 rfl (congrArg Value.bool h125) (o_ssl_h Tryz.underlying9 rfl rfl (by omega) (by first | omega | (simp only [List.length_append, List.length_replicate]; omega)) ?_)
                  refine s_on 173 rfl (congrArg Value.bool h125) (o_seql (a := (readS (((mendR (Dv.mk (Pw.mk false false 0 0) la60 []) 3).2).p) (((mendR (Dv.mk (Pw.mk false false 0 0) la60 []) 3).2).la) (((mendR (Dv.mk (Pw.mk false false 0 0) la60 []) 3).2).lo) 0)) (b := (List.replicate ((256 : Int)).toNat (0 : UInt8)).take 64) rfl rfl ?_)
                  refine s_op (o_pick_t (u := (.bool (decide ((readS (((mendR (Dv.mk (Pw.mk false false 0 0) la60 []) 3).2).p) (((mendR (Dv.mk (Pw.mk false false 0 0) la60 []) 3).2).la) (((mendR (Dv.mk (Pw.mk false false 0 0) la60 []) 3).2).lo) 0) = (List.replicate ((256 : Int)).toNat (0 : UInt8)).take 64)))) ((rfl : _ = _).trans (congrArg Value.bool h125)) rfl ?_)
                  refine s_op (o_assign (v := (.bool (decide ((readS (((mendR (Dv.mk (Pw.mk false false 0 0) la60 []) 3).2).p) (((mendR (Dv.mk (Pw.mk false false 0 0) la60 []) 3).2).la) (((mendR (Dv.mk (Pw.mk false false 0 0) la60 []) 3).2).lo) 0) = (List.replicate ((256 : Int)).toNat (0 : UInt8)).take 64)))) rfl ?_)
                  refine s_nil ?_
                  refine t_norm (hK120 _ _ ?_)
                  refine wp_ret ?_
                  refine b_ret (t_ret (c_ret1 Tryz.results6  (v := (.bool (decide ((readS (((mendR (Dv.mk (Pw.mk false false 0 0) la60 []) 3).2).p) (((mendR (Dv.mk (Pw.mk false false 0 0) la60 []) 3).2).la) (((mendR (Dv.mk (Pw.mk false false 0 0) la60 []) 3).2).lo) 0) = (List.replicate ((256 : Int)).toNat (0 : UInt8)).take 64)))) rfl ?_))
                  have hH126 : Has E w124 [R] := (hH123.front 9 rfl).first 1 rfl
                  exact ⟨by first | rfl | (rw [decide_eq_true hS_]) | (rw [decide_eq_true hm9_]), hH126⟩
                · -- not: (decide (((pgOf (pgB ((mendR (Dv.mk (Pw.mk false false 0 0) la60 []) 3).2).la (plc ((IntKind.wrap .u64 no) % 3))) ((IntKind.wrap .u64 no) % 3)).1.1) = ((IntKind.wrap .u64 no) % 3) ∧ ((pgOf (pgB ((mendR (Dv.mk (Pw.mk false false 0 0) la60 []) 3).2).la (plc ((IntKind.wrap .u64 no) % 3))) ((IntKind.wrap .u64 no) % 3)).1.2.1) = 0 ∧ ((pgOf (pgB ((mendR (Dv.mk (Pw.mk false false 0 0) la60 []) 3).2).la (plc ((IntKind.wrap .u64 no) % 3))) ((IntKind.wrap .u64 no) % 3)).1.2.2) = ([] : List Cel)))
                  exact absurd h125 (by rw [hpf_]; simp)
              · -- not: (pgOf (pgB ((mendR (Dv.mk (Pw.mk false false 0 0) la60 []) 3).2).la (plc ((IntKind.wrap .u64 no) % 3))) ((IntKind.wrap .u64 no) % 3)).2 = 0
                exact absurd (by rw [hpf_]) h121
            · -- not: bz61 = (List.replicate ((256 : Int)).toNat (0 : UInt8))
              have hS_ : readS (mendR (Dv.mk (Pw.mk false false 0 0) la60 []) 3).2.p (mendR (Dv.mk (Pw.mk false false 0 0) la60 []) 3).2.la (mendR (Dv.mk (Pw.mk false false 0 0) la60 []) 3).2.lo 0 = ((List.replicate ((256 : Int)).toNat (0 : UInt8))).take 64 := by rw [(rd_sec (d := (mendR (Dv.mk (Pw.mk false false 0 0) la60 []) 3).2) (n := 0) hlo_ hon_ ⟨by decide, by rw [hln_]; decide⟩).1, hTF.note]; exact (zer_take 256 64 (by decide)).symm
              refine wp_seq_k fun K127 hK127 => ?_
              refine c_region ?_
              refine s_op (o_move (v := (.bool ((readR bz61).1))) rfl ?_)
              refine s_op (o_not rfl ?_)
              refine s_op (o_move (v := (.bool (!((readR bz61).1)))) rfl ?_)
              rcases Bool.eq_false_or_eq_true (!((readR bz61).1)) with h128 | h128
              · -- !((readR bz61).1)
                have h128_n : ((readR bz61).1) = false := by first | simpa using h128 | exact Bool.of_not_eq_true (fun g_ => by rw [g_] at h128; cases h128)
                have hpf_ : pgOf (pgB (mendR (Dv.mk (Pw.mk false false 0 0) la60 []) 3).2.la (plc ((IntKind.wrap .u64 no) % 3))) ((IntKind.wrap .u64 no) % 3) = ((0, 0, []), 9) := by rw [hTF.home]; exact pgOf_no h119 (fun g_ => absurd g_.1 (by rw [← hre2_]; simpa using h128))
                refine s_off (b' := true) 182 rfl (congrArg Value.bool h128) rfl ?_
                refine s_off (b' := true) 182 rfl (congrArg Value.bool h128) rfl ?_
                refine s_off (b' := true) 182 rfl (congrArg Value.bool h128) rfl ?_
                refine s_off (b' := true) 182 rfl (congrArg Value.bool h128) rfl ?_
                refine s_op (o_pick_t (u := (.bool true)) ((rfl : _ = _).trans (congrArg Value.bool h128)) rfl ?_)
                refine s_op (o_assign (v := (.bool true)) rfl ?_)
                refine s_nil ?_
                refine t_norm (hK127 _ _ ?_)
                refine c_true rfl rfl ?_
                refine wp_seq_k fun K129 hK129 => ?_
                refine c_region ?_
                refine s_op (o_move (v := (.int .i64 ((pgOf (pgB ((mendR (Dv.mk (Pw.mk false false 0 0) la60 []) 3).2).la (plc ((IntKind.wrap .u64 no) % 3))) ((IntKind.wrap .u64 no) % 3)).2))) rfl ?_)
                refine s_op (o_eql (a := (pgOf (pgB ((mendR (Dv.mk (Pw.mk false false 0 0) la60 []) 3).2).la (plc ((IntKind.wrap .u64 no) % 3))) ((IntKind.wrap .u64 no) % 3)).2) (b := 9) rfl rfl ?_)
                refine s_op (o_move (v := (.bool (decide ((pgOf (pgB ((mendR (Dv.mk (Pw.mk false false 0 0) la60 []) 3).2).la (plc ((IntKind.wrap .u64 no) % 3))) ((IntKind.wrap .u64 no) % 3)).2 = 9)))) rfl ?_)
                by_cases h130 : (pgOf (pgB ((mendR (Dv.mk (Pw.mk false false 0 0) la60 []) 3).2).la (plc ((IntKind.wrap .u64 no) % 3))) ((IntKind.wrap .u64 no) % 3)).2 = 9
                · -- (pgOf (pgB ((mendR (Dv.mk (Pw.mk false false 0 0) la60 []) 3).2).la (plc ((IntKind.wrap .u64 no) % 3))) ((IntKind.wrap .u64 no) % 3)).2 = 9
                  refine s_on 190 rfl (congrArg Value.bool (decide_eq_true h130)) (o_move (v := (S (readS (((mendR (Dv.mk (Pw.mk false false 0 0) la60 []) 3).2).p) (((mendR (Dv.mk (Pw.mk false false 0 0) la60 []) 3).2).la) (((mendR (Dv.mk (Pw.mk false false 0 0) la60 []) 3).2).lo) 0))) rfl ?_)
                  refine s_on 190 rfl (congrArg Value.bool (decide_eq_true h130)) (o_move (v := (S (List.replicate ((256 : Int)).toNat (0 : UInt8)))) rfl ?_)
                  refine s_on 190 rfl (congrArg Value.bool (decide_eq_true h130)) (o_ssl_h Tryz.underlying9 rfl rfl (by omega) (by first | omega | (simp only [List.length_append, List.length_replicate]; omega)) ?_)
                  refine s_on 190 rfl (congrArg Value.bool (decide_eq_true h130)) (o_seql (a := (readS (((mendR (Dv.mk (Pw.mk false false 0 0) la60 []) 3).2).p) (((mendR (Dv.mk (Pw.mk false false 0 0) la60 []) 3).2).la) (((mendR (Dv.mk (Pw.mk false false 0 0) la60 []) 3).2).lo) 0)) (b := (List.replicate ((256 : Int)).toNat (0 : UInt8)).take 64) rfl rfl ?_)
                  refine s_op (o_pick_t (u := (.bool (decide ((readS (((mendR (Dv.mk (Pw.mk false false 0 0) la60 []) 3).2).p) (((mendR (Dv.mk (Pw.mk false false 0 0) la60 []) 3).2).la) (((mendR (Dv.mk (Pw.mk false false 0 0) la60 []) 3).2).lo) 0) = (List.replicate ((256 : Int)).toNat (0 : UInt8)).take 64)))) ((rfl : _ = _).trans (congrArg Value.bool (decide_eq_true h130))) rfl ?_)
                  refine s_op (o_assign (v := (.bool (decide ((readS (((mendR (Dv.mk (Pw.mk false false 0 0) la60 []) 3).2).p) (((mendR (Dv.mk (Pw.mk false false 0 0) la60 []) 3).2).la) (((mendR (Dv.mk (Pw.mk false false 0 0) la60 []) 3).2).lo) 0) = (List.replicate ((256 : Int)).toNat (0 : UInt8)).take 64)))) rfl ?_)
                  refine s_nil ?_
                  refine t_norm (hK129 _ _ ?_)
                  refine wp_ret ?_
                  refine b_ret (t_ret (c_ret1 Tryz.results6  (v := (.bool (decide ((readS (((mendR (Dv.mk (Pw.mk false false 0 0) la60 []) 3).2).p) (((mendR (Dv.mk (Pw.mk false false 0 0) la60 []) 3).2).la) (((mendR (Dv.mk (Pw.mk false false 0 0) la60 []) 3).2).lo) 0) = (List.replicate ((256 : Int)).toNat (0 : UInt8)).take 64)))) rfl ?_))
                  have hH131 : Has E w115 [R] := (hH116.front 9 rfl).first 1 rfl
                  exact ⟨by first | rfl | (rw [decide_eq_true hS_]) | (rw [decide_eq_true hm9_]), hH131⟩
                · -- not: (pgOf (pgB ((mendR (Dv.mk (Pw.mk false false 0 0) la60 []) 3).2).la (plc ((IntKind.wrap .u64 no) % 3))) ((IntKind.wrap .u64 no) % 3)).2 = 9
                  exact absurd (by rw [hpf_]) h130
              · -- not: !((readR bz61).1)
                have h128_n : ((readR bz61).1) = true := by first | simpa using h128 | exact Bool.of_not_eq_false (fun g_ => by rw [g_] at h128; cases h128)
                refine s_on 182 rfl (congrArg Value.bool h128) (o_fieldAddr (k := 0) (fun _ => by kernel_rfl) rfl ?_)
                refine s_on 182 rfl (congrArg Value.bool h128) (o_load1 (v := (.int .i64 ((readR bz61).2.1))) Tryz.underlying3 rfl rfl hH116 (seg_sub 0 rfl) (CellsAt.one rfl) ?_)
                refine s_on 182 rfl (congrArg Value.bool h128) (o_move (v := (.int .i64 ((IntKind.wrap .u64 no) % 3))) rfl ?_)
                refine s_on 182 rfl (congrArg Value.bool h128) (o_neq (a := (readR bz61).2.1) (b := (IntKind.wrap .u64 no) % 3) rfl rfl ?_)
                refine s_op (o_pick_f (u := (.bool (decide ((readR bz61).2.1 ≠ (IntKind.wrap .u64 no) % 3)))) ((rfl : _ = _).trans (congrArg Value.bool h128)) rfl ?_)
                refine s_op (o_assign (v := (.bool (decide ((readR bz61).2.1 ≠ (IntKind.wrap .u64 no) % 3)))) rfl ?_)
                refine s_nil ?_
                refine t_norm (hK127 _ _ ?_)
                refine c_cond rfl (fun h132 => ?_) (fun h132 => ?_)
                · -- (readR bz61).2.1 ≠ (IntKind.wrap .u64 no) % 3
                  have hpf_ : pgOf (pgB (mendR (Dv.mk (Pw.mk false false 0 0) la60 []) 3).2.la (plc ((IntKind.wrap .u64 no) % 3))) ((IntKind.wrap .u64 no) % 3) = ((0, 0, []), 9) := by rw [hTF.home]; exact pgOf_no h119 (fun g_ => h132 (by rw [hre2_]; exact g_.2))
                  refine wp_seq_k fun K133 hK133 => ?_
                  refine c_region ?_
                  refine s_op (o_move (v := (.int .i64 ((pgOf (pgB ((mendR (Dv.mk (Pw.mk false false 0 0) la60 []) 3).2).la (plc ((IntKind.wrap .u64 no) % 3))) ((IntKind.wrap .u64 no) % 3)).2))) rfl ?_)
                  refine s_op (o_eql (a := (pgOf (pgB ((mendR (Dv.mk (Pw.mk false false 0 0) la60 []) 3).2).la (plc ((IntKind.wrap .u64 no) % 3))) ((IntKind.wrap .u64 no) % 3)).2) (b := 9) rfl rfl ?_)
                  refine s_op (o_move (v := (.bool (decide ((pgOf (pgB ((mendR (Dv.mk (Pw.mk false false 0 0) la60 []) 3).2).la (plc ((IntKind.wrap .u64 no) % 3))) ((IntKind.wrap .u64 no) % 3)).2 = 9)))) rfl ?_)
                  by_cases h134 : (pgOf (pgB ((mendR (Dv.mk (Pw.mk false false 0 0) la60 []) 3).2).la (plc ((IntKind.wrap .u64 no) % 3))) ((IntKind.wrap .u64 no) % 3)).2 = 9
                  · -- (pgOf (pgB ((mendR (Dv.mk (Pw.mk false false 0 0) la60 []) 3).2).la (plc ((IntKind.wrap .u64 no) % 3))) ((IntKind.wrap .u64 no) % 3)).2 = 9
                    refine s_on 190 rfl (congrArg Value.bool (decide_eq_true h134)) (o_move (v := (S (readS (((mendR (Dv.mk (Pw.mk false false 0 0) la60 []) 3).2).p) (((mendR (Dv.mk (Pw.mk false false 0 0) la60 []) 3).2).la) (((mendR (Dv.mk (Pw.mk false false 0 0) la60 []) 3).2).lo) 0))) rfl ?_)
                    refine s_on 190 rfl (congrArg Value.bool (decide_eq_true h134)) (o_move (v := (S (List.replicate ((256 : Int)).toNat (0 : UInt8)))) rfl ?_)
                    refine s_on 190 rfl (congrArg Value.bool (decide_eq_true h134)) (o_ssl_h Tryz.underlying9 rfl rfl (by omega) (by first | omega | (simp only [List.length_append, List.length_replicate]; omega)) ?_)
                    refine s_on 190 rfl (congrArg Value.bool (decide_eq_true h134)) (o_seql (a := (readS (((mendR (Dv.mk (Pw.mk false false 0 0) la60 []) 3).2).p) (((mendR (Dv.mk (Pw.mk false false 0 0) la60 []) 3).2).la) (((mendR (Dv.mk (Pw.mk false false 0 0) la60 []) 3).2).lo) 0)) (b := (List.replicate ((256 : Int)).toNat (0 : UInt8)).take 64) rfl rfl ?_)
                    refine s_op (o_pick_t (u := (.bool (decide ((readS (((mendR (Dv.mk (Pw.mk false false 0 0) la60 []) 3).2).p) (((mendR (Dv.mk (Pw.mk false false 0 0) la60 []) 3).2).la) (((mendR (Dv.mk (Pw.mk false false 0 0) la60 []) 3).2).lo) 0) = (List.replicate ((256 : Int)).toNat (0 : UInt8)).take 64)))) ((rfl : _ = _).trans (congrArg Value.bool (decide_eq_true h134))) rfl ?_)
                    refine s_op (o_assign (v := (.bool (decide ((readS (((mendR (Dv.mk (Pw.mk false false 0 0) la60 []) 3).2).p) (((mendR (Dv.mk (Pw.mk false false 0 0) la60 []) 3).2).la) (((mendR (Dv.mk (Pw.mk false false 0 0) la60 []) 3).2).lo) 0) = (List.replicate ((256 : Int)).toNat (0 : UInt8)).take 64)))) rfl ?_)
                    refine s_nil ?_
                    refine t_norm (hK133 _ _ ?_)
                    refine wp_ret ?_
                    refine b_ret (t_ret (c_ret1 Tryz.results6  (v := (.bool (decide ((readS (((mendR (Dv.mk (Pw.mk false false 0 0) la60 []) 3).2).p) (((mendR (Dv.mk (Pw.mk false false 0 0) la60 []) 3).2).la) (((mendR (Dv.mk (Pw.mk false false 0 0) la60 []) 3).2).lo) 0) = (List.replicate ((256 : Int)).toNat (0 : UInt8)).take 64)))) rfl ?_))
                    have hH135 : Has E w115 [R] := (hH116.front 9 rfl).first 1 rfl
                    exact ⟨by first | rfl | (rw [decide_eq_true hS_]) | (rw [decide_eq_true hm9_]), hH135⟩
                  · -- not: (pgOf (pgB ((mendR (Dv.mk (Pw.mk false false 0 0) la60 []) 3).2).la (plc ((IntKind.wrap .u64 no) % 3))) ((IntKind.wrap .u64 no) % 3)).2 = 9
                    exact absurd (by rw [hpf_]) h134
                · -- not: (readR bz61).2.1 ≠ (IntKind.wrap .u64 no) % 3
                  have hpf_ : pgOf (pgB (mendR (Dv.mk (Pw.mk false false 0 0) la60 []) 3).2.la (plc ((IntKind.wrap .u64 no) % 3))) ((IntKind.wrap .u64 no) % 3) = ((readR bz61).2, 0) := by rw [hTF.home, hre2_]; exact pgOf_yes ⟨by rw [← hre2_]; simpa using h128, by rw [← hre2_]; exact Classical.not_not.1 h132⟩
                  refine wp_skip ?_
                  refine b_norm ?_
                  refine t_norm (hK117 _ _ ?_)
                  refine wp_seq_k fun K136 hK136 => ?_
                  refine c_region ?_
                  refine s_op (o_move (v := (.int .i64 ((pgOf (pgB ((mendR (Dv.mk (Pw.mk false false 0 0) la60 []) 3).2).la (plc ((IntKind.wrap .u64 no) % 3))) ((IntKind.wrap .u64 no) % 3)).2))) rfl ?_)
                  refine s_op (o_eql (a := (pgOf (pgB ((mendR (Dv.mk (Pw.mk false false 0 0) la60 []) 3).2).la (plc ((IntKind.wrap .u64 no) % 3))) ((IntKind.wrap .u64 no) % 3)).2) (b := 0) rfl rfl ?_)
                  refine s_op (o_move (v := (.bool (decide ((pgOf (pgB ((mendR (Dv.mk (Pw.mk false false 0 0) la60 []) 3).2).la (plc ((IntKind.wrap .u64 no) % 3))) ((IntKind.wrap .u64 no) % 3)).2 = 0)))) rfl ?_)
                  by_cases h137 : (pgOf (pgB ((mendR (Dv.mk (Pw.mk false false 0 0) la60 []) 3).2).la (plc ((IntKind.wrap .u64 no) % 3))) ((IntKind.wrap .u64 no) % 3)).2 = 0
                  · -- (pgOf (pgB ((mendR (Dv.mk (Pw.mk false false 0 0) la60 []) 3).2).la (plc ((IntKind.wrap .u64 no) % 3))) ((IntKind.wrap .u64 no) % 3)).2 = 0
                    refine s_on 198 rfl (congrArg Value.bool (decide_eq_true h137)) (o_loadN (cs := [(.int .i64 ((readR bz61).2.1)), (.int .i64 ((readR bz61).2.2.1)), v106]) Tryz.underlying36 rfl ti36 rfl hH116 (seg_sub 0 rfl) (CellsAt.one rfl) ?_)
                    refine s_on 198 rfl (congrArg Value.bool (decide_eq_true h137)) (o_loadN (cs := [(.int .i64 ((pgOf (pgB ((mendR (Dv.mk (Pw.mk false false 0 0) la60 []) 3).2).la (plc ((IntKind.wrap .u64 no) % 3))) ((IntKind.wrap .u64 no) % 3)).1.1)), (.int .i64 ((pgOf (pgB ((mendR (Dv.mk (Pw.mk false false 0 0) la60 []) 3).2).la (plc ((IntKind.wrap .u64 no) % 3))) ((IntKind.wrap .u64 no) % 3)).1.2.1)), v94]) Tryz.underlying36 rfl ti36 rfl hH116 (seg_sub 2 rfl) (CellsAt.one rfl) ?_)
                    refine s_on 198 rfl (congrArg Value.bool (decide_eq_true h137)) (o_callf (vs := #[(.agg #[(.int .i64 ((readR bz61).2.1)), (.int .i64 ((readR bz61).2.2.1)), v106]), (.agg #[(.int .i64 ((pgOf (pgB ((mendR (Dv.mk (Pw.mk false false 0 0) la60 []) 3).2).la (plc ((IntKind.wrap .u64 no) % 3))) ((IntKind.wrap .u64 no) % 3)).1.1)), (.int .i64 ((pgOf (pgB ((mendR (Dv.mk (Pw.mk false false 0 0) la60 []) 3).2).la (plc ((IntKind.wrap .u64 no) % 3))) ((IntKind.wrap .u64 no) % 3)).1.2.1)), v94])]) ca25 rfl (args2 rfl rfl) (r11same_c (noa := (readR bz61).2.1) (gsna := (readR bz61).2.2.1) (la := ((readR bz61).2.2.2)) (nob := (pgOf (pgB ((mendR (Dv.mk (Pw.mk false false 0 0) la60 []) 3).2).la (plc ((IntKind.wrap .u64 no) % 3))) ((IntKind.wrap .u64 no) % 3)).1.1) (gsnb := (pgOf (pgB ((mendR (Dv.mk (Pw.mk false false 0 0) la60 []) 3).2).la (plc ((IntKind.wrap .u64 no) % 3))) ((IntKind.wrap .u64 no) % 3)).1.2.1) (lb := (pgOf (pgB ((mendR (Dv.mk (Pw.mk false false 0 0) la60 []) 3).2).la (plc ((IntKind.wrap .u64 no) % 3))) ((IntKind.wrap .u64 no) % 3)).1.2.2) hH116.all (ho108.sl.mono (seg_sub 1 rfl)) (ho96.sl.mono (seg_sub 3 rfl))) ?_)
                    rintro _ w140 ⟨rfl, hX138⟩
                    refine ⟨_, rfl, ?_⟩
                    have hH139 := hX138.of_all
                    refine s_op (o_pick_t (u := (.bool (decide (((readR bz61).2.1) = ((pgOf (pgB ((mendR (Dv.mk (Pw.mk false false 0 0) la60 []) 3).2).la (plc ((IntKind.wrap .u64 no) % 3))) ((IntKind.wrap .u64 no) % 3)).1.1) ∧ ((readR bz61).2.2.1) = ((pgOf (pgB ((mendR (Dv.mk (Pw.mk false false 0 0) la60 []) 3).2).la (plc ((IntKind.wrap .u64 no) % 3))) ((IntKind.wrap .u64 no) % 3)).1.2.1) ∧ ((readR bz61).2.2.2) = ((pgOf (pgB ((mendR (Dv.mk (Pw.mk false false 0 0) la60 []) 3).2).la (plc ((IntKind.wrap .u64 no) % 3))) ((IntKind.wrap .u64 no) % 3)).1.2.2))))) ((rfl : _ = _).trans (congrArg Value.bool (decide_eq_true h137))) rfl ?_)
                    refine s_op (o_move (v := (.bool (decide (((readR bz61).2.1) = ((pgOf (pgB ((mendR (Dv.mk (Pw.mk false false 0 0) la60 []) 3).2).la (plc ((IntKind.wrap .u64 no) % 3))) ((IntKind.wrap .u64 no) % 3)).1.1) ∧ ((readR bz61).2.2.1) = ((pgOf (pgB ((mendR (Dv.mk (Pw.mk false false 0 0) la60 []) 3).2).la (plc ((IntKind.wrap .u64 no) % 3))) ((IntKind.wrap .u64 no) % 3)).1.2.1) ∧ ((readR bz61).2.2.2) = ((pgOf (pgB ((mendR (Dv.mk (Pw.mk false false 0 0) la60 []) 3).2).la (plc ((IntKind.wrap .u64 no) % 3))) ((IntKind.wrap .u64 no) % 3)).1.2.2))))) rfl ?_)
                    rcases Bool.eq_false_or_eq_true (decide (((readR bz61).2.1) = ((pgOf (pgB ((mendR (Dv.mk (Pw.mk false false 0 0) la60 []) 3).2).la (plc ((IntKind.wrap .u64 no) % 3))) ((IntKind.wrap .u64 no) % 3)).1.1) ∧ ((readR bz61).2.2.1) = ((pgOf (pgB ((mendR (Dv.mk (Pw.mk false false 0 0) la60 []) 3).2).la (plc ((IntKind.wrap .u64 no) % 3))) ((IntKind.wrap .u64 no) % 3)).1.2.1) ∧ ((readR bz61).2.2.2) = ((pgOf (pgB ((mendR (Dv.mk (Pw.mk false false 0 0) la60 []) 3).2).la (plc ((IntKind.wrap .u64 no) % 3))) ((IntKind.wrap .u64 no) % 3)).1.2.2))) with h141 | h141
                    · -- (decide (((readR bz61).2.1) = ((pgOf (pgB ((mendR (Dv.mk (Pw.mk false false 0 0) la60 []) 3).2).la (plc ((IntKind.wrap .u64 no) % 3))) ((IntKind.wrap .u64 no) % 3)).1.1) ∧ ((readR bz61).2.2.1) = ((pgOf (pgB ((mendR (Dv.mk (Pw.mk false false 0 0) la60 []) 3).2).la (plc ((IntKind.wrap .u64 no) % 3))) ((IntKind.wrap .u64 no) % 3)).1.2.1) ∧ ((readR bz61).2.2.2) = ((pgOf (pgB ((mendR (Dv.mk (Pw.mk false false 0 0) la60 []) 3).2).la (plc ((IntKind.wrap .u64 no) % 3))) ((IntKind.wrap .u64 no) % 3)).1.2.2)))
                      refine s_on 203 rfl (congrArg Value.bool h141) (o_move (v := (S (readS (((mendR (Dv.mk (Pw.mk false false 0 0) la60 []) 3).2).p) (((mendR (Dv.mk (Pw.mk false false 0 0) la60 []) 3).2).la) (((mendR (Dv.mk (Pw.mk false false 0 0) la60 []) 3).2).lo) 0))) rfl ?_)
                      refine s_on 203 rfl (congrArg Value.bool h141) (o_move (v := (S (List.replicate ((256 : Int)).toNat (0 : UInt8)))) rfl ?_)
                      refine s_on 203 rfl (congrArg Value.bool h141) (o_ssl_h Tryz.underlying9 rfl rfl (by omega) (by first | omega | (simp only [List.length_append, List.length_replicate]; omega)) ?_)
                      refine s_on 203 rfl (congrArg Value.bool h141) (o_seql (a := (readS (((mendR (Dv.mk (Pw.mk false false 0 0) la60 []) 3).2).p) (((mendR (Dv.mk (Pw.mk false false 0 0) la60 []) 3).2).la) (((mendR (Dv.mk (Pw.mk false false 0 0) la60 []) 3).2).lo) 0)) (b := (List.replicate ((256 : Int)).toNat (0 : UInt8)).take 64) rfl rfl ?_)
                      refine s_op (o_pick_t (u := (.bool (decide ((readS (((mendR (Dv.mk (Pw.mk false false 0 0) la60 []) 3).2).p) (((mendR (Dv.mk (Pw.mk false false 0 0) la60 []) 3).2).la) (((mendR (Dv.mk (Pw.mk false false 0 0) la60 []) 3).2).lo) 0) = (List.replicate ((256 : Int)).toNat (0 : UInt8)).take 64)))) ((rfl : _ = _).trans (congrArg Value.bool h141)) rfl ?_)
                      refine s_op (o_assign (v := (.bool (decide ((readS (((mendR (Dv.mk (Pw.mk false false 0 0) la60 []) 3).2).p) (((mendR (Dv.mk (Pw.mk false false 0 0) la60 []) 3).2).la) (((mendR (Dv.mk (Pw.mk false false 0 0) la60 []) 3).2).lo) 0) = (List.replicate ((256 : Int)).toNat (0 : UInt8)).take 64)))) rfl ?_)
                      refine s_nil ?_
                      refine t_norm (hK136 _ _ ?_)
                      refine wp_ret ?_
                      refine c_ret1 Tryz.results6  (v := (.bool (decide ((readS (((mendR (Dv.mk (Pw.mk false false 0 0) la60 []) 3).2).p) (((mendR (Dv.mk (Pw.mk false false 0 0) la60 []) 3).2).la) (((mendR (Dv.mk (Pw.mk false false 0 0) la60 []) 3).2).lo) 0) = (List.replicate ((256 : Int)).toNat (0 : UInt8)).take 64)))) rfl ?_
                      have hH142 : Has E w140 [R] := (hH139.front 9 rfl).first 1 rfl
                      exact ⟨by first | rfl | (rw [decide_eq_true hS_]) | (rw [decide_eq_true hm9_]), hH142⟩
                    · -- not: (decide (((readR bz61).2.1) = ((pgOf (pgB ((mendR (Dv.mk (Pw.mk false false 0 0) la60 []) 3).2).la (plc ((IntKind.wrap .u64 no) % 3))) ((IntKind.wrap .u64 no) % 3)).1.1) ∧ ((readR bz61).2.2.1) = ((pgOf (pgB ((mendR (Dv.mk (Pw.mk false false 0 0) la60 []) 3).2).la (plc ((IntKind.wrap .u64 no) % 3))) ((IntKind.wrap .u64 no) % 3)).1.2.1) ∧ ((readR bz61).2.2.2) = ((pgOf (pgB ((mendR (Dv.mk (Pw.mk false false 0 0) la60 []) 3).2).la (plc ((IntKind.wrap .u64 no) % 3))) ((IntKind.wrap .u64 no) % 3)).1.2.2)))
                      exact absurd h141 (by rw [hpf_]; simp)
                  · -- not: (pgOf (pgB ((mendR (Dv.mk (Pw.mk false false 0 0) la60 []) 3).2).la (plc ((IntKind.wrap .u64 no) % 3))) ((IntKind.wrap .u64 no) % 3)).2 = 0
                    exact absurd (by rw [hpf_]) h137
        · -- no
          by_cases hc143 : Good (nt ++ (List.replicate (64 - (nt.length : Int)).toNat (0 : UInt8))) bz51 x0
          · -- yes
            have hD_ := to_D (p := (Pw.mk false false 0 0)) hTO hNl_ hC_ hc68 hx0 hc143 rfl rfl hkk_
            obtain ⟨⟨⟨g1_, g2_⟩, g3_⟩, g4_, g5_⟩ := hc143
            have hlo_ : (mendR (Dv.mk (Pw.mk false false 0 0) la60 []) 3).2.lo = [] := hD_.2.2.2.1
            have hon_ : (mendR (Dv.mk (Pw.mk false false 0 0) la60 []) 3).2.p.off = false := hD_.2.1
            have h64_ : Full64 (mendR (Dv.mk (Pw.mk false false 0 0) la60 []) 3).2.la := hD_.2.2.1.full
            have hln_ : (mendR (Dv.mk (Pw.mk false false 0 0) la60 []) 3).2.la.length = 17 := hD_.2.2.1.len
            refine s_op (o_callf (vs := #[(.pointer (some ⟨db25, 0, none⟩)), (.int .i64 3)]) ca21 rfl (args2 rfl rfl) (topen_ok (d := (Dv.mk (Pw.mk false false 0 0) la60 [])) ((hH65.front 1 rfl).front 1 rfl).all2 hd59 (n := 3) Few.new (by omega) rfl (by show la60.length ≤ 4096; rw [hlnla60]; decide) ⟨by decide, by decide⟩ (by show (5 : Int) + 3 * 4 ≤ ((la60.length : Nat) : Int); rw [hlnla60]; decide) (hg.mono (seg_sub 1 rfl)) hTO.full rfl hD_.1) ?_)
            rintro _ w149 ⟨tb146, sg144, rfl, hd145, hX147⟩
            refine ⟨_, rfl, ?_⟩
            have hH148 : Has E w149 [[Hp.one tb146 (.cells #[(.pointer (some ⟨db25, 0, none⟩)), (.int .i64 3)] 98 (0, 0))], sg144, [Hp.one pb26 (.cells #[(.bool ((mendR (Dv.mk (Pw.mk false false 0 0) la60 []) 3).2).p.off), (.bool ((mendR (Dv.mk (Pw.mk false false 0 0) la60 []) 3).2).p.armed), (.int .i64 ((mendR (Dv.mk (Pw.mk false false 0 0) la60 []) 3).2).p.left), (.int .i64 ((mendR (Dv.mk (Pw.mk false false 0 0) la60 []) 3).2).p.uses)] 101 (0, 0))], s40, R] := hX147.of_all3
            refine s_op (o_move (v := (.tuple #[(.pointer (some ⟨tb146, 0, none⟩)), (.int .i64 (0 : Int))])) rfl ?_)
            refine s_op (o_extract (v := (.pointer (some ⟨tb146, 0, none⟩))) rfl rfl ?_)
            refine s_op (o_extract (v := (.int .i64 (0 : Int))) rfl rfl ?_)
            refine s_op (o_assign (v := (.pointer (some ⟨tb146, 0, none⟩))) rfl ?_)
            refine s_op (o_assign (v := (.int .i64 (0 : Int))) rfl ?_)
            refine s_nil ?_
            refine t_norm (hK67 _ _ ?_)
            refine wp_seq_k fun K150 hK150 => ?_
            refine c_region ?_
            refine s_op (o_make Tryz.underlying54 ti5 rfl rfl (by omega) (by omega) (by omega) (by omega) hH148 fun v151 s152 w154 ho153 hH155 => ?_)
            have ho156 : Own 5 1 v151 (List.replicate ((256 : Int)).toNat (0 : UInt8)).length ((List.replicate ((256 : Int)).toNat (0 : UInt8)).map bV) s152 := by rw [List.length_replicate, List.map_replicate, ← made_rep]; exact ho153
            obtain ⟨p157, c158, rfl⟩ := (Own.sl ho153).form
            refine s_op (o_bstr Tryz.underlying54 Tryz.underlying5 Tryz.underlying9 rfl ho156.sl hH155 (seg_sub 0 rfl) ?_)
            refine s_op (o_assign (v := (S (List.replicate ((256 : Int)).toNat (0 : UInt8)))) rfl ?_)
            refine s_nil ?_
            refine t_norm (hK150 _ _ ?_)
            refine wp_seq_k fun K159 hK159 => ?_
            refine wp_seq_k fun K160 hK160 => ?_
            refine c_region ?_
            refine s_op (o_move (v := (S (nt ++ (List.replicate (64 - (nt.length : Int)).toNat (0 : UInt8))))) rfl ?_)
            refine s_op (o_move (v := (S (List.replicate ((256 : Int)).toNat (0 : UInt8)))) rfl ?_)
            refine s_op (o_ssl_h Tryz.underlying9 rfl rfl (by omega) (by first | omega | (simp only [List.length_append, List.length_replicate]; omega)) ?_)
            refine s_op (o_sneq (a := nt ++ (List.replicate (64 - (nt.length : Int)).toNat (0 : UInt8))) (b := (List.replicate ((256 : Int)).toNat (0 : UInt8)).take 64) rfl rfl ?_)
            refine s_nil ?_
            refine t_norm (hK160 _ _ ?_)
            refine c_cond rfl (fun h161 => ?_) (fun h161 => ?_)
            · -- nt ++ (List.replicate (64 - (nt.length : Int)).toNat (0 : UInt8)) ≠ (List.replicate ((256 : Int)).toNat (0 : UInt8)).take 64
              refine wp_seq_k fun K162 hK162 => ?_
              refine c_region ?_
              refine s_op (o_move (v := (S bz51)) rfl ?_)
              refine s_op (o_callf (vs := #[(S bz51)]) ca31 rfl (args1 rfl) (r11read_c (s := bz51) hH155.all ) ?_)
              rintro _ w168 ⟨v163, s164, rfl, ho165, hX166⟩
              refine ⟨_, rfl, ?_⟩
              have hH167 : Has E w168 [s164, s152, [Hp.one tb146 (.cells #[(.pointer (some ⟨db25, 0, none⟩)), (.int .i64 3)] 98 (0, 0))], sg144, [Hp.one pb26 (.cells #[(.bool ((mendR (Dv.mk (Pw.mk false false 0 0) la60 []) 3).2).p.off), (.bool ((mendR (Dv.mk (Pw.mk false false 0 0) la60 []) 3).2).p.armed), (.int .i64 ((mendR (Dv.mk (Pw.mk false false 0 0) la60 []) 3).2).p.left), (.int .i64 ((mendR (Dv.mk (Pw.mk false false 0 0) la60 []) 3).2).p.uses)] 101 (0, 0))], s40, R] := hX166.of_all1
              refine s_op (o_move (v := (.tuple #[(.agg #[(.int .i64 ((readR bz51).2.1)), (.int .i64 ((readR bz51).2.2.1)), v163]), (.bool ((readR bz51).1))])) rfl ?_)
              refine s_op (o_extract (v := (.agg #[(.int .i64 ((readR bz51).2.1)), (.int .i64 ((readR bz51).2.2.1)), v163])) rfl rfl ?_)
              refine s_op (o_extract (v := (.bool ((readR bz51).1))) rfl rfl ?_)
              refine s_op (o_alloc (cs := #[(.int .i64 0), (.int .i64 0), (.slice none 0 0)]) ti36 rfl hH167 fun b169 w170 hH171 => ?_)
              refine s_eff (o_storeN (vs := [(.int .i64 ((readR bz51).2.1)), (.int .i64 ((readR bz51).2.2.1)), v163]) (c' := #[(.int .i64 ((readR bz51).2.1)), (.int .i64 ((readR bz51).2.2.1)), v163]) ti36 rfl rfl rfl rfl (by intro u hu; simp only [List.mem_cons, List.not_mem_nil, or_false] at hu; rcases hu with rfl | rfl | rfl <;> first | rfl | exact ho165.one) (by simp) (by kernel_rfl) (hH171.front 0 rfl) fun w172 hH173 => ?_)
              refine s_op (o_assign (v := (.bool ((readR bz51).1))) rfl ?_)
              refine s_nil ?_
              refine t_norm (hK162 _ _ ?_)
              refine wp_seq_k fun K174 hK174 => ?_
              refine wp_seq_k fun K175 hK175 => ?_
              refine Rest.region mixed (by kernel_rfl) ?_
              have hH176 : Has E { w172 with drawn := w172.drawn + 1 } [[Hp.one b169 (.cells #[(.int .i64 ((readR bz51).2.1)), (.int .i64 ((readR bz51).2.2.1)), v163] 36 (0, 0))], s164, s152, [Hp.one tb146 (.cells #[(.pointer (some ⟨db25, 0, none⟩)), (.int .i64 3)] 98 (0, 0))], sg144, [Hp.one pb26 (.cells #[(.bool ((mendR (Dv.mk (Pw.mk false false 0 0) la60 []) 3).2).p.off), (.bool ((mendR (Dv.mk (Pw.mk false false 0 0) la60 []) 3).2).p.armed), (.int .i64 ((mendR (Dv.mk (Pw.mk false false 0 0) la60 []) 3).2).p.left), (.int .i64 ((mendR (Dv.mk (Pw.mk false false 0 0) la60 []) 3).2).p.uses)] 101 (0, 0))], s40, R] := Has0.drew hH173 _
              refine r_op 0 rfl (by kernel_rfl) (o_move (v := (S (nt ++ (List.replicate (64 - (nt.length : Int)).toNat (0 : UInt8))))) rfl ?_)
              refine r_op 1 rfl (by kernel_rfl) (o_sidx Tryz.underlying9 rfl rfl (by omega) hx0 ?_)
              refine r_op 2 rfl (by kernel_rfl) (o_lss (a := (x0.toNat : Int)) (b := 1) rfl rfl ?_)
              refine r_op 3 rfl (by kernel_rfl) (o_move (v := (.bool (decide ((x0.toNat : Int) < 1)))) rfl ?_)
              by_cases h177 : (x0.toNat : Int) < 1
              · -- (x0.toNat : Int) < 1
                exfalso; omega
              · -- not: (x0.toNat : Int) < 1
                refine r_on 4 rfl (by kernel_rfl) 88 rfl (congrArg Value.bool (decide_eq_false h177)) (o_move (v := (S (nt ++ (List.replicate (64 - (nt.length : Int)).toNat (0 : UInt8))))) rfl ?_)
                refine r_on 5 rfl (by kernel_rfl) 88 rfl (congrArg Value.bool (decide_eq_false h177)) (o_sidx Tryz.underlying9 rfl rfl (by omega) hx0 ?_)
                refine r_on 6 rfl (by kernel_rfl) 88 rfl (congrArg Value.bool (decide_eq_false h177)) (o_gtr (a := (x0.toNat : Int)) (b := 3) rfl rfl ?_)
                refine r_op 7 rfl (by kernel_rfl) (o_pick_f (u := (.bool (decide (3 < (x0.toNat : Int))))) ((rfl : _ = _).trans (congrArg Value.bool (decide_eq_false h177))) rfl ?_)
                refine r_op 8 rfl (by kernel_rfl) (o_move (v := (.bool (decide (3 < (x0.toNat : Int))))) rfl ?_)
                refine Rest.phaseA (fun w_ => Has E w_ []) 9 13 4 rfl (by decide) (by kernel_rfl) ?_
                by_cases h178 : 3 < (x0.toNat : Int)
                · -- 3 < (x0.toNat : Int)
                  exfalso; omega
                · -- not: 3 < (x0.toNat : Int)
                  refine a_on 9 rfl (by kernel_rfl) 93 rfl (congrArg Value.bool (decide_eq_false h178)) (fun w_ h_ => o_move (v := (S (nt ++ (List.replicate (64 - (nt.length : Int)).toNat (0 : UInt8))))) rfl ⟨rfl, rfl⟩) ?_
                  refine a_on 10 rfl (by kernel_rfl) 93 rfl (congrArg Value.bool (decide_eq_false h178)) (fun w_ h_ => o_ssl_l Tryz.underlying9 rfl rfl (by omega) (by first | omega | (simp only [List.length_append, List.length_replicate]; omega)) ⟨rfl, rfl⟩) ?_
                  refine a_on 11 rfl (by kernel_rfl) 93 rfl (congrArg Value.bool (decide_eq_false h178)) (fun w_ h_ => o_move (v := (S (List.replicate ((256 : Int)).toNat (0 : UInt8)))) rfl ⟨rfl, rfl⟩) ?_
                  refine a_on 12 rfl (by kernel_rfl) 93 rfl (congrArg Value.bool (decide_eq_false h178)) (fun w_ h_ => o_ssl_h Tryz.underlying9 rfl rfl (by omega) (by first | omega | (simp only [List.length_append, List.length_replicate]; omega)) ⟨rfl, rfl⟩) ?_
                  have hH179 : Has E { w172 with drawn := w172.drawn + 1 } [] := hH176.first 0 rfl
                  refine a_done (by kernel_rfl) hH179 ?_
                  refine r_on 13 rfl (by kernel_rfl) 93 rfl (congrArg Value.bool (decide_eq_false h178)) (o_sneq (a := (nt ++ (List.replicate (64 - (nt.length : Int)).toNat (0 : UInt8))).drop 1) (b := (List.replicate ((256 : Int)).toNat (0 : UInt8)).take 63) rfl rfl ?_)
                  refine r_op 14 rfl (by kernel_rfl) (o_pick_f (u := (.bool (decide ((nt ++ (List.replicate (64 - (nt.length : Int)).toNat (0 : UInt8))).drop 1 ≠ (List.replicate ((256 : Int)).toNat (0 : UInt8)).take 63)))) ((rfl : _ = _).trans (congrArg Value.bool (decide_eq_false h178))) rfl ?_)
                  refine r_op 15 rfl (by kernel_rfl) (o_move (v := (.bool (decide ((nt ++ (List.replicate (64 - (nt.length : Int)).toNat (0 : UInt8))).drop 1 ≠ (List.replicate ((256 : Int)).toNat (0 : UInt8)).take 63)))) rfl ?_)
                  by_cases h180 : (nt ++ (List.replicate (64 - (nt.length : Int)).toNat (0 : UInt8))).drop 1 ≠ (List.replicate ((256 : Int)).toNat (0 : UInt8)).take 63
                  · -- (nt ++ (List.replicate (64 - (nt.length : Int)).toNat (0 : UInt8))).drop 1 ≠ (List.replicate ((256 : Int)).toNat (0 : UInt8)).take 63
                    exact absurd (g3_.trans (zer_take 256 63 (by decide)).symm) h180
                  · -- not: (nt ++ (List.replicate (64 - (nt.length : Int)).toNat (0 : UInt8))).drop 1 ≠ (List.replicate ((256 : Int)).toNat (0 : UInt8)).take 63
                    refine r_on 16 rfl (by kernel_rfl) 100 rfl (congrArg Value.bool (decide_eq_false h180)) (o_move (v := (.bool ((readR bz51).1))) rfl ?_)
                    refine r_on 17 rfl (by kernel_rfl) 100 rfl (congrArg Value.bool (decide_eq_false h180)) (o_not rfl ?_)
                    refine r_op 18 rfl (by kernel_rfl) (o_pick_f (u := (.bool (!((readR bz51).1)))) ((rfl : _ = _).trans (congrArg Value.bool (decide_eq_false h180))) rfl ?_)
                    refine r_op 19 rfl (by kernel_rfl) (o_move (v := (.bool (!((readR bz51).1)))) rfl ?_)
                    refine Rest.phaseA (fun w_ => Has E w_ [[Hp.one b169 (.cells #[(.int .i64 ((readR bz51).2.1)), (.int .i64 ((readR bz51).2.2.1)), v163] 36 (0, 0))]]) 20 26 6 rfl (by decide) (by kernel_rfl) ?_
                    rcases Bool.eq_false_or_eq_true (!((readR bz51).1)) with h181 | h181
                    · -- !((readR bz51).1)
                      have h181_n : ((readR bz51).1) = false := by first | simpa using h181 | exact Bool.of_not_eq_true (fun g_ => by rw [g_] at h181; cases h181)
                      exact absurd h181 (by rw [hre1_, g4_]; decide)
                    · -- not: !((readR bz51).1)
                      have h181_n : ((readR bz51).1) = true := by first | simpa using h181 | exact Bool.of_not_eq_false (fun g_ => by rw [g_] at h181; cases h181)
                      refine a_on 20 rfl (by kernel_rfl) 104 rfl (congrArg Value.bool h181) (fun w_ h_ => o_fieldAddr (k := 0) (fun _ => by kernel_rfl) rfl ⟨rfl, rfl⟩) ?_
                      refine a_on 21 rfl (by kernel_rfl) 104 rfl (congrArg Value.bool h181) (fun w_ h_ => o_load1 (v := (.int .i64 ((readR bz51).2.1))) Tryz.underlying3 rfl rfl h_ (seg_sub 0 rfl) (CellsAt.one rfl) ⟨rfl, rfl⟩) ?_
                      refine a_on 22 rfl (by kernel_rfl) 104 rfl (congrArg Value.bool h181) (fun w_ h_ => o_move (v := (S (nt ++ (List.replicate (64 - (nt.length : Int)).toNat (0 : UInt8))))) rfl ⟨rfl, rfl⟩) ?_
                      refine a_on 23 rfl (by kernel_rfl) 104 rfl (congrArg Value.bool h181) (fun w_ h_ => o_sidx Tryz.underlying9 rfl rfl (by omega) hx0 ⟨rfl, rfl⟩) ?_
                      refine a_on 24 rfl (by kernel_rfl) 104 rfl (congrArg Value.bool h181) (fun w_ h_ => o_conv Tryz.underlying5 Tryz.underlying3 rfl (w_u8 _) ⟨rfl, rfl⟩) ?_
                      refine a_on 25 rfl (by kernel_rfl) 104 rfl (congrArg Value.bool h181) (fun w_ h_ => o_sub (a := (x0.toNat : Int)) (b := 1) rfl rfl (w64 (by omega) (by omega)) ⟨rfl, rfl⟩) ?_
                      have hH182 : Has E { w172 with drawn := w172.drawn + 1 } [[Hp.one b169 (.cells #[(.int .i64 ((readR bz51).2.1)), (.int .i64 ((readR bz51).2.2.1)), v163] 36 (0, 0))]] := hH176.first 1 rfl
                      refine a_done (by kernel_rfl) hH182 ?_
                      refine r_on 26 rfl (by kernel_rfl) 104 rfl (congrArg Value.bool h181) (o_neq (a := (readR bz51).2.1) (b := (x0.toNat : Int) - 1) rfl rfl ?_)
                      refine r_op 27 rfl (by kernel_rfl) (o_pick_f (u := (.bool (decide ((readR bz51).2.1 ≠ (x0.toNat : Int) - 1)))) ((rfl : _ = _).trans (congrArg Value.bool h181)) rfl ?_)
                      refine Rest.done (by kernel_rfl) ?_
                      refine t_norm (hK175 _ _ ?_)
                      refine c_cond rfl (fun h183 => ?_) (fun h183 => ?_)
                      · -- (readR bz51).2.1 ≠ (x0.toNat : Int) - 1
                        exact absurd (by rw [hre1_]; exact g5_) h183
                      · -- not: (readR bz51).2.1 ≠ (x0.toNat : Int) - 1
                        refine wp_skip ?_
                        refine t_norm (hK174 _ _ ?_)
                        refine wp_seq_k fun K184 hK184 => ?_
                        refine c_region ?_
                        refine s_op (o_fieldAddr (k := 0) (fun _ => by kernel_rfl) rfl ?_)
                        refine s_op (o_load1 (v := (.int .i64 ((readR bz51).2.1))) Tryz.underlying3 rfl rfl hH176 (seg_sub 0 rfl) (CellsAt.one rfl) ?_)
                        refine s_op (o_move (v := (.int .i64 ((IntKind.wrap .u64 no) % 3))) rfl ?_)
                        refine s_op (o_eql (a := (readR bz51).2.1) (b := (IntKind.wrap .u64 no) % 3) rfl rfl ?_)
                        refine s_nil ?_
                        refine t_norm (hK184 _ _ ?_)
                        refine c_cond rfl (fun h185 => ?_) (fun h185 => ?_)
                        · -- (readR bz51).2.1 = (IntKind.wrap .u64 no) % 3
                          have hb_ : (readR bz51).2.1 = (x0.toNat : Int) - 1 := by rw [hre1_]; exact g5_
                          have hTF : TO (mendR (Dv.mk (Pw.mk false false 0 0) la60 []) 3).2.la (zer 64) (pgB (mendR (Dv.mk (Pw.mk false false 0 0) la60 []) 3).2.la 1) bz51 ((IntKind.wrap .u64 no) % 3) := by have h_ := hD_.2.2.1; rw [if_pos (by rw [← hre1_]; exact h185)] at h_; exact h_
                          refine c_region ?_
                          refine s_op (o_move (v := (S bz51)) rfl ?_)
                          refine s_op (o_assign (v := (S bz51)) rfl ?_)
                          refine s_nil ?_
                          refine t_norm (hK159 _ _ ?_)
                          refine wp_seq_k fun K186 hK186 => ?_
                          refine wp_seq_k fun K187 hK187 => ?_
                          refine c_region ?_
                          refine s_op (o_move (v := (.pointer (some ⟨tb146, 0, none⟩))) rfl ?_)
                          refine s_op (o_pnil (p := some _) Tryz.underlying25 rfl rfl ?_)
                          refine s_op (o_move (v := (.bool false)) rfl ?_)
                          refine s_on 141 rfl rfl (o_move (v := (.int .i64 (0 : Int))) rfl ?_)
                          refine s_on 141 rfl rfl (o_neq (a := (0 : Int)) (b := 0) rfl rfl ?_)
                          refine s_op (o_pick_f (u := (.bool false)) rfl rfl ?_)
                          refine s_nil ?_
                          refine t_norm (hK187 _ _ ?_)
                          refine c_false rfl rfl ?_
                          refine wp_skip ?_
                          refine t_norm (hK186 _ _ ?_)
                          refine wp_seq_k fun K188 hK188 => ?_
                          refine c_region ?_
                          refine s_op (o_move (v := (.pointer (some ⟨db25, 0, none⟩))) rfl ?_)
                          refine s_op (o_callf (vs := #[(.pointer (some ⟨db25, 0, none⟩)), (.int .i64 0)]) ca32 rfl (args2 rfl rfl) (read_d (p := ((mendR (Dv.mk (Pw.mk false false 0 0) la60 []) 3).2).p) (la := ((mendR (Dv.mk (Pw.mk false false 0 0) la60 []) 3).2).la) (lo := ((mendR (Dv.mk (Pw.mk false false 0 0) la60 []) 3).2).lo) ((hH176.front 5 rfl).front 5 rfl).all2 hd145 0) ?_)
                          rintro _ w191 ⟨rfl, hX189⟩
                          refine ⟨_, rfl, ?_⟩
                          have hH190 : Has E w191 [sg144, [Hp.one pb26 (.cells #[(.bool ((mendR (Dv.mk (Pw.mk false false 0 0) la60 []) 3).2).p.off), (.bool ((mendR (Dv.mk (Pw.mk false false 0 0) la60 []) 3).2).p.armed), (.int .i64 ((mendR (Dv.mk (Pw.mk false false 0 0) la60 []) 3).2).p.left), (.int .i64 ((mendR (Dv.mk (Pw.mk false false 0 0) la60 []) 3).2).p.uses)] 101 (0, 0))], [Hp.one b169 (.cells #[(.int .i64 ((readR bz51).2.1)), (.int .i64 ((readR bz51).2.2.1)), v163] 36 (0, 0))], s164, s152, [Hp.one tb146 (.cells #[(.pointer (some ⟨db25, 0, none⟩)), (.int .i64 3)] 98 (0, 0))], s40, R] := hX189.of_all2
                          refine s_op (o_move (v := (.tuple #[(S (readS (((mendR (Dv.mk (Pw.mk false false 0 0) la60 []) 3).2).p) (((mendR (Dv.mk (Pw.mk false false 0 0) la60 []) 3).2).la) (((mendR (Dv.mk (Pw.mk false false 0 0) la60 []) 3).2).lo) 0)), (.int .i64 (readE (((mendR (Dv.mk (Pw.mk false false 0 0) la60 []) 3).2).p) (((mendR (Dv.mk (Pw.mk false false 0 0) la60 []) 3).2).la) 0))])) rfl ?_)
                          refine s_op (o_extract (v := (S (readS (((mendR (Dv.mk (Pw.mk false false 0 0) la60 []) 3).2).p) (((mendR (Dv.mk (Pw.mk false false 0 0) la60 []) 3).2).la) (((mendR (Dv.mk (Pw.mk false false 0 0) la60 []) 3).2).lo) 0))) rfl rfl ?_)
                          refine s_op (o_extract (v := (.int .i64 (readE (((mendR (Dv.mk (Pw.mk false false 0 0) la60 []) 3).2).p) (((mendR (Dv.mk (Pw.mk false false 0 0) la60 []) 3).2).la) 0))) rfl rfl ?_)
                          refine s_op (o_assign (v := (S (readS (((mendR (Dv.mk (Pw.mk false false 0 0) la60 []) 3).2).p) (((mendR (Dv.mk (Pw.mk false false 0 0) la60 []) 3).2).la) (((mendR (Dv.mk (Pw.mk false false 0 0) la60 []) 3).2).lo) 0))) rfl ?_)
                          refine s_op (o_assign (v := (.int .i64 (readE (((mendR (Dv.mk (Pw.mk false false 0 0) la60 []) 3).2).p) (((mendR (Dv.mk (Pw.mk false false 0 0) la60 []) 3).2).la) 0))) rfl ?_)
                          refine s_nil ?_
                          refine t_norm (hK188 _ _ ?_)
                          refine wp_seq_k fun K192 hK192 => ?_
                          refine c_region ?_
                          refine s_op (o_move (v := (.pointer (some ⟨tb146, 0, none⟩))) rfl ?_)
                          refine s_op (o_move (v := (.int .i64 ((IntKind.wrap .u64 no) % 3))) rfl ?_)
                          refine s_op (o_callf (vs := #[(.pointer (some ⟨tb146, 0, none⟩)), (.int .i64 ((IntKind.wrap .u64 no) % 3))]) ca24 rfl (args2 rfl rfl) (tpage_on (d := (mendR (Dv.mk (Pw.mk false false 0 0) la60 []) 3).2) (n := 3) (((hH190.front 5 rfl).front 2 rfl).front 2 rfl).all3 hd145 hlo_ hon_ h64_ (by rw [hln_]; decide) ⟨by decide, by decide⟩ (by rw [hln_]; decide) (hg.mono (seg_sub 4 rfl)) (x := (IntKind.wrap .u64 no) % 3) ⟨by omega, by omega⟩) ?_)
                          rintro _ w198 ⟨v193, hs194, rfl, ho195, hX196⟩
                          refine ⟨_, rfl, ?_⟩
                          have hH197 : Has E w198 [hs194, sg144, [Hp.one pb26 (.cells #[(.bool ((mendR (Dv.mk (Pw.mk false false 0 0) la60 []) 3).2).p.off), (.bool ((mendR (Dv.mk (Pw.mk false false 0 0) la60 []) 3).2).p.armed), (.int .i64 ((mendR (Dv.mk (Pw.mk false false 0 0) la60 []) 3).2).p.left), (.int .i64 ((mendR (Dv.mk (Pw.mk false false 0 0) la60 []) 3).2).p.uses)] 101 (0, 0))], [Hp.one tb146 (.cells #[(.pointer (some ⟨db25, 0, none⟩)), (.int .i64 3)] 98 (0, 0))], [Hp.one b169 (.cells #[(.int .i64 ((readR bz51).2.1)), (.int .i64 ((readR bz51).2.2.1)), v163] 36 (0, 0))], s164, s152, s40, R] := hX196.of_all4
                          refine s_op (o_move (v := (.tuple #[(.agg #[(.int .i64 ((pgOf (pgB ((mendR (Dv.mk (Pw.mk false false 0 0) la60 []) 3).2).la (plc ((IntKind.wrap .u64 no) % 3))) ((IntKind.wrap .u64 no) % 3)).1.1)), (.int .i64 ((pgOf (pgB ((mendR (Dv.mk (Pw.mk false false 0 0) la60 []) 3).2).la (plc ((IntKind.wrap .u64 no) % 3))) ((IntKind.wrap .u64 no) % 3)).1.2.1)), v193]), (.int .i64 ((pgOf (pgB ((mendR (Dv.mk (Pw.mk false false 0 0) la60 []) 3).2).la (plc ((IntKind.wrap .u64 no) % 3))) ((IntKind.wrap .u64 no) % 3)).2))])) rfl ?_)
                          refine s_op (o_extract (v := (.agg #[(.int .i64 ((pgOf (pgB ((mendR (Dv.mk (Pw.mk false false 0 0) la60 []) 3).2).la (plc ((IntKind.wrap .u64 no) % 3))) ((IntKind.wrap .u64 no) % 3)).1.1)), (.int .i64 ((pgOf (pgB ((mendR (Dv.mk (Pw.mk false false 0 0) la60 []) 3).2).la (plc ((IntKind.wrap .u64 no) % 3))) ((IntKind.wrap .u64 no) % 3)).1.2.1)), v193])) rfl rfl ?_)
                          refine s_op (o_extract (v := (.int .i64 ((pgOf (pgB ((mendR (Dv.mk (Pw.mk false false 0 0) la60 []) 3).2).la (plc ((IntKind.wrap .u64 no) % 3))) ((IntKind.wrap .u64 no) % 3)).2))) rfl rfl ?_)
                          refine s_op (o_alloc (cs := #[(.int .i64 0), (.int .i64 0), (.slice none 0 0)]) ti36 rfl hH197 fun b199 w200 hH201 => ?_)
                          refine s_eff (o_storeN (vs := [(.int .i64 ((pgOf (pgB ((mendR (Dv.mk (Pw.mk false false 0 0) la60 []) 3).2).la (plc ((IntKind.wrap .u64 no) % 3))) ((IntKind.wrap .u64 no) % 3)).1.1)), (.int .i64 ((pgOf (pgB ((mendR (Dv.mk (Pw.mk false false 0 0) la60 []) 3).2).la (plc ((IntKind.wrap .u64 no) % 3))) ((IntKind.wrap .u64 no) % 3)).1.2.1)), v193]) (c' := #[(.int .i64 ((pgOf (pgB ((mendR (Dv.mk (Pw.mk false false 0 0) la60 []) 3).2).la (plc ((IntKind.wrap .u64 no) % 3))) ((IntKind.wrap .u64 no) % 3)).1.1)), (.int .i64 ((pgOf (pgB ((mendR (Dv.mk (Pw.mk false false 0 0) la60 []) 3).2).la (plc ((IntKind.wrap .u64 no) % 3))) ((IntKind.wrap .u64 no) % 3)).1.2.1)), v193]) ti36 rfl rfl rfl rfl (by intro u hu; simp only [List.mem_cons, List.not_mem_nil, or_false] at hu; rcases hu with rfl | rfl | rfl <;> first | rfl | exact ho195.one) (by simp) (by kernel_rfl) (hH201.front 0 rfl) fun w202 hH203 => ?_)
                          refine s_op (o_assign (v := (.int .i64 ((pgOf (pgB ((mendR (Dv.mk (Pw.mk false false 0 0) la60 []) 3).2).la (plc ((IntKind.wrap .u64 no) % 3))) ((IntKind.wrap .u64 no) % 3)).2))) rfl ?_)
                          refine s_nil ?_
                          refine t_norm (hK192 _ _ ?_)
                          refine wp_seq_k fun K204 hK204 => ?_
                          refine c_region ?_
                          refine s_op (o_move (v := (S bz51)) rfl ?_)
                          refine s_op (o_callf (vs := #[(S bz51)]) ca31 rfl (args1 rfl) (r11read_c (s := bz51) hH203.all ) ?_)
                          rintro _ w210 ⟨v205, s206, rfl, ho207, hX208⟩
                          refine ⟨_, rfl, ?_⟩
                          have hH209 : Has E w210 [s206, [Hp.one b199 (.cells #[(.int .i64 ((pgOf (pgB ((mendR (Dv.mk (Pw.mk false false 0 0) la60 []) 3).2).la (plc ((IntKind.wrap .u64 no) % 3))) ((IntKind.wrap .u64 no) % 3)).1.1)), (.int .i64 ((pgOf (pgB ((mendR (Dv.mk (Pw.mk false false 0 0) la60 []) 3).2).la (plc ((IntKind.wrap .u64 no) % 3))) ((IntKind.wrap .u64 no) % 3)).1.2.1)), v193] 36 (0, 0))], hs194, sg144, [Hp.one pb26 (.cells #[(.bool ((mendR (Dv.mk (Pw.mk false false 0 0) la60 []) 3).2).p.off), (.bool ((mendR (Dv.mk (Pw.mk false false 0 0) la60 []) 3).2).p.armed), (.int .i64 ((mendR (Dv.mk (Pw.mk false false 0 0) la60 []) 3).2).p.left), (.int .i64 ((mendR (Dv.mk (Pw.mk false false 0 0) la60 []) 3).2).p.uses)] 101 (0, 0))], [Hp.one tb146 (.cells #[(.pointer (some ⟨db25, 0, none⟩)), (.int .i64 3)] 98 (0, 0))], [Hp.one b169 (.cells #[(.int .i64 ((readR bz51).2.1)), (.int .i64 ((readR bz51).2.2.1)), v163] 36 (0, 0))], s164, s152, s40, R] := hX208.of_all1
                          refine s_op (o_move (v := (.tuple #[(.agg #[(.int .i64 ((readR bz51).2.1)), (.int .i64 ((readR bz51).2.2.1)), v205]), (.bool ((readR bz51).1))])) rfl ?_)
                          refine s_op (o_extract (v := (.agg #[(.int .i64 ((readR bz51).2.1)), (.int .i64 ((readR bz51).2.2.1)), v205])) rfl rfl ?_)
                          refine s_op (o_extract (v := (.bool ((readR bz51).1))) rfl rfl ?_)
                          refine s_op (o_alloc (cs := #[(.int .i64 0), (.int .i64 0), (.slice none 0 0)]) ti36 rfl hH209 fun b211 w212 hH213 => ?_)
                          refine s_eff (o_storeN (vs := [(.int .i64 ((readR bz51).2.1)), (.int .i64 ((readR bz51).2.2.1)), v205]) (c' := #[(.int .i64 ((readR bz51).2.1)), (.int .i64 ((readR bz51).2.2.1)), v205]) ti36 rfl rfl rfl rfl (by intro u hu; simp only [List.mem_cons, List.not_mem_nil, or_false] at hu; rcases hu with rfl | rfl | rfl <;> first | rfl | exact ho207.one) (by simp) (by kernel_rfl) (hH213.front 0 rfl) fun w214 hH215 => ?_)
                          refine s_op (o_assign (v := (.bool ((readR bz51).1))) rfl ?_)
                          refine s_nil ?_
                          refine t_norm (hK204 _ _ ?_)
                          refine wp_seq_k fun K216 hK216 => ?_
                          refine wp_block ?_
                          refine wp_seq_k fun K217 hK217 => ?_
                          refine c_region ?_
                          refine s_op (o_move (v := (S bz51)) rfl ?_)
                          refine s_op (o_move (v := (S (List.replicate ((256 : Int)).toNat (0 : UInt8)))) rfl ?_)
                          refine s_op (o_seql (a := bz51) (b := (List.replicate ((256 : Int)).toNat (0 : UInt8))) rfl rfl ?_)
                          refine s_op (o_assign (v := (.bool (decide (bz51 = (List.replicate ((256 : Int)).toNat (0 : UInt8)))))) rfl ?_)
                          refine s_nil ?_
                          refine t_norm (hK217 _ _ ?_)
                          refine c_cond rfl (fun h218 => ?_) (fun h218 => ?_)
                          · -- bz51 = (List.replicate ((256 : Int)).toNat (0 : UInt8))
                            have hS_ : readS (mendR (Dv.mk (Pw.mk false false 0 0) la60 []) 3).2.p (mendR (Dv.mk (Pw.mk false false 0 0) la60 []) 3).2.la (mendR (Dv.mk (Pw.mk false false 0 0) la60 []) 3).2.lo 0 = ((List.replicate ((256 : Int)).toNat (0 : UInt8))).take 64 := by rw [(rd_sec (d := (mendR (Dv.mk (Pw.mk false false 0 0) la60 []) 3).2) (n := 0) hlo_ hon_ ⟨by decide, by rw [hln_]; decide⟩).1, hTF.note]; exact (zer_take 256 64 (by decide)).symm
                            exact absurd h218 (of_ne_read g4_)
                          · -- not: bz51 = (List.replicate ((256 : Int)).toNat (0 : UInt8))
                            have hS_ : readS (mendR (Dv.mk (Pw.mk false false 0 0) la60 []) 3).2.p (mendR (Dv.mk (Pw.mk false false 0 0) la60 []) 3).2.la (mendR (Dv.mk (Pw.mk false false 0 0) la60 []) 3).2.lo 0 = ((List.replicate ((256 : Int)).toNat (0 : UInt8))).take 64 := by rw [(rd_sec (d := (mendR (Dv.mk (Pw.mk false false 0 0) la60 []) 3).2) (n := 0) hlo_ hon_ ⟨by decide, by rw [hln_]; decide⟩).1, hTF.note]; exact (zer_take 256 64 (by decide)).symm
                            refine wp_seq_k fun K219 hK219 => ?_
                            refine c_region ?_
                            refine s_op (o_move (v := (.bool ((readR bz51).1))) rfl ?_)
                            refine s_op (o_not (b := true) ((rfl : _ = _).trans (congrArg Value.bool h181_n)) ?_)
                            refine s_op (o_move (v := (.bool false)) rfl ?_)
                            refine s_on 182 rfl rfl (o_fieldAddr (k := 0) (fun _ => by kernel_rfl) rfl ?_)
                            refine s_on 182 rfl rfl (o_load1 (v := (.int .i64 ((readR bz51).2.1))) Tryz.underlying3 rfl rfl hH215 (seg_sub 0 rfl) (CellsAt.one rfl) ?_)
                            refine s_on 182 rfl rfl (o_move (v := (.int .i64 ((IntKind.wrap .u64 no) % 3))) rfl ?_)
                            refine s_on 182 rfl rfl (o_neq (a := (readR bz51).2.1) (b := (IntKind.wrap .u64 no) % 3) rfl rfl ?_)
                            refine s_op (o_pick_f (u := (.bool (decide ((readR bz51).2.1 ≠ (IntKind.wrap .u64 no) % 3)))) rfl rfl ?_)
                            refine s_op (o_assign (v := (.bool (decide ((readR bz51).2.1 ≠ (IntKind.wrap .u64 no) % 3)))) rfl ?_)
                            refine s_nil ?_
                            refine t_norm (hK219 _ _ ?_)
                            refine c_cond rfl (fun h220 => ?_) (fun h220 => ?_)
                            · -- (readR bz51).2.1 ≠ (IntKind.wrap .u64 no) % 3
                              exact absurd h185 h220
                            · -- not: (readR bz51).2.1 ≠ (IntKind.wrap .u64 no) % 3
                              have hpf_ : pgOf (pgB (mendR (Dv.mk (Pw.mk false false 0 0) la60 []) 3).2.la (plc ((IntKind.wrap .u64 no) % 3))) ((IntKind.wrap .u64 no) % 3) = ((readR bz51).2, 0) := by rw [hTF.home, hre1_]; exact pgOf_yes ⟨by rw [← hre1_]; simpa using h181, by rw [← hre1_]; exact Classical.not_not.1 h220⟩
                              refine wp_skip ?_
                              refine b_norm ?_
                              refine t_norm (hK216 _ _ ?_)
                              refine wp_seq_k fun K221 hK221 => ?_
                              refine c_region ?_
                              refine s_op (o_move (v := (.int .i64 ((pgOf (pgB ((mendR (Dv.mk (Pw.mk false false 0 0) la60 []) 3).2).la (plc ((IntKind.wrap .u64 no) % 3))) ((IntKind.wrap .u64 no) % 3)).2))) rfl ?_)
                              refine s_op (o_eql (a := (pgOf (pgB ((mendR (Dv.mk (Pw.mk false false 0 0) la60 []) 3).2).la (plc ((IntKind.wrap .u64 no) % 3))) ((IntKind.wrap .u64 no) % 3)).2) (b := 0) rfl rfl ?_)
                              refine s_op (o_move (v := (.bool (decide ((pgOf (pgB ((mendR (Dv.mk (Pw.mk false false 0 0) la60 []) 3).2).la (plc ((IntKind.wrap .u64 no) % 3))) ((IntKind.wrap .u64 no) % 3)).2 = 0)))) rfl ?_)
                              by_cases h222 : (pgOf (pgB ((mendR (Dv.mk (Pw.mk false false 0 0) la60 []) 3).2).la (plc ((IntKind.wrap .u64 no) % 3))) ((IntKind.wrap .u64 no) % 3)).2 = 0
                              · -- (pgOf (pgB ((mendR (Dv.mk (Pw.mk false false 0 0) la60 []) 3).2).la (plc ((IntKind.wrap .u64 no) % 3))) ((IntKind.wrap .u64 no) % 3)).2 = 0
                                refine s_on 198 rfl (congrArg Value.bool (decide_eq_true h222)) (o_loadN (cs := [(.int .i64 ((readR bz51).2.1)), (.int .i64 ((readR bz51).2.2.1)), v205]) Tryz.underlying36 rfl ti36 rfl hH215 (seg_sub 0 rfl) (CellsAt.one rfl) ?_)
                                refine s_on 198 rfl (congrArg Value.bool (decide_eq_true h222)) (o_loadN (cs := [(.int .i64 ((pgOf (pgB ((mendR (Dv.mk (Pw.mk false false 0 0) la60 []) 3).2).la (plc ((IntKind.wrap .u64 no) % 3))) ((IntKind.wrap .u64 no) % 3)).1.1)), (.int .i64 ((pgOf (pgB ((mendR (Dv.mk (Pw.mk false false 0 0) la60 []) 3).2).la (plc ((IntKind.wrap .u64 no) % 3))) ((IntKind.wrap .u64 no) % 3)).1.2.1)), v193]) Tryz.underlying36 rfl ti36 rfl hH215 (seg_sub 2 rfl) (CellsAt.one rfl) ?_)
                                refine s_on 198 rfl (congrArg Value.bool (decide_eq_true h222)) (o_callf (vs := #[(.agg #[(.int .i64 ((readR bz51).2.1)), (.int .i64 ((readR bz51).2.2.1)), v205]), (.agg #[(.int .i64 ((pgOf (pgB ((mendR (Dv.mk (Pw.mk false false 0 0) la60 []) 3).2).la (plc ((IntKind.wrap .u64 no) % 3))) ((IntKind.wrap .u64 no) % 3)).1.1)), (.int .i64 ((pgOf (pgB ((mendR (Dv.mk (Pw.mk false false 0 0) la60 []) 3).2).la (plc ((IntKind.wrap .u64 no) % 3))) ((IntKind.wrap .u64 no) % 3)).1.2.1)), v193])]) ca25 rfl (args2 rfl rfl) (r11same_c (noa := (readR bz51).2.1) (gsna := (readR bz51).2.2.1) (la := ((readR bz51).2.2.2)) (nob := (pgOf (pgB ((mendR (Dv.mk (Pw.mk false false 0 0) la60 []) 3).2).la (plc ((IntKind.wrap .u64 no) % 3))) ((IntKind.wrap .u64 no) % 3)).1.1) (gsnb := (pgOf (pgB ((mendR (Dv.mk (Pw.mk false false 0 0) la60 []) 3).2).la (plc ((IntKind.wrap .u64 no) % 3))) ((IntKind.wrap .u64 no) % 3)).1.2.1) (lb := (pgOf (pgB ((mendR (Dv.mk (Pw.mk false false 0 0) la60 []) 3).2).la (plc ((IntKind.wrap .u64 no) % 3))) ((IntKind.wrap .u64 no) % 3)).1.2.2) hH215.all (ho207.sl.mono (seg_sub 1 rfl)) (ho195.sl.mono (seg_sub 3 rfl))) ?_)
                                rintro _ w225 ⟨rfl, hX223⟩
                                refine ⟨_, rfl, ?_⟩
                                have hH224 := hX223.of_all
                                refine s_op (o_pick_t (u := (.bool (decide (((readR bz51).2.1) = ((pgOf (pgB ((mendR (Dv.mk (Pw.mk false false 0 0) la60 []) 3).2).la (plc ((IntKind.wrap .u64 no) % 3))) ((IntKind.wrap .u64 no) % 3)).1.1) ∧ ((readR bz51).2.2.1) = ((pgOf (pgB ((mendR (Dv.mk (Pw.mk false false 0 0) la60 []) 3).2).la (plc ((IntKind.wrap .u64 no) % 3))) ((IntKind.wrap .u64 no) % 3)).1.2.1) ∧ ((readR bz51).2.2.2) = ((pgOf (pgB ((mendR (Dv.mk (Pw.mk false false 0 0) la60 []) 3).2).la (plc ((IntKind.wrap .u64 no) % 3))) ((IntKind.wrap .u64 no) % 3)).1.2.2))))) ((rfl : _ = _).trans (congrArg Value.bool (decide_eq_true h222))) rfl ?_)
                                refine s_op (o_move (v := (.bool (decide (((readR bz51).2.1) = ((pgOf (pgB ((mendR (Dv.mk (Pw.mk false false 0 0) la60 []) 3).2).la (plc ((IntKind.wrap .u64 no) % 3))) ((IntKind.wrap .u64 no) % 3)).1.1) ∧ ((readR bz51).2.2.1) = ((pgOf (pgB ((mendR (Dv.mk (Pw.mk false false 0 0) la60 []) 3).2).la (plc ((IntKind.wrap .u64 no) % 3))) ((IntKind.wrap .u64 no) % 3)).1.2.1) ∧ ((readR bz51).2.2.2) = ((pgOf (pgB ((mendR (Dv.mk (Pw.mk false false 0 0) la60 []) 3).2).la (plc ((IntKind.wrap .u64 no) % 3))) ((IntKind.wrap .u64 no) % 3)).1.2.2))))) rfl ?_)
                                rcases Bool.eq_false_or_eq_true (decide (((readR bz51).2.1) = ((pgOf (pgB ((mendR (Dv.mk (Pw.mk false false 0 0) la60 []) 3).2).la (plc ((IntKind.wrap .u64 no) % 3))) ((IntKind.wrap .u64 no) % 3)).1.1) ∧ ((readR bz51).2.2.1) = ((pgOf (pgB ((mendR (Dv.mk (Pw.mk false false 0 0) la60 []) 3).2).la (plc ((IntKind.wrap .u64 no) % 3))) ((IntKind.wrap .u64 no) % 3)).1.2.1) ∧ ((readR bz51).2.2.2) = ((pgOf (pgB ((mendR (Dv.mk (Pw.mk false false 0 0) la60 []) 3).2).la (plc ((IntKind.wrap .u64 no) % 3))) ((IntKind.wrap .u64 no) % 3)).1.2.2))) with h226 | h226
                                · -- (decide (((readR bz51).2.1) = ((pgOf (pgB ((mendR (Dv.mk (Pw.mk false false 0 0) la60 []) 3).2).la (plc ((IntKind.wrap .u64 no) % 3))) ((IntKind.wrap .u64 no) % 3)).1.1) ∧ ((readR bz51).2.2.1) = ((pgOf (pgB ((mendR (Dv.mk (Pw.mk false false 0 0) la60 []) 3).2).la (plc ((IntKind.wrap .u64 no) % 3))) ((IntKind.wrap .u64 no) % 3)).1.2.1) ∧ ((readR bz51).2.2.2) = ((pgOf (pgB ((mendR (Dv.mk (Pw.mk false false 0 0) la60 []) 3).2).la (plc ((IntKind.wrap .u64 no) % 3))) ((IntKind.wrap .u64 no) % 3)).1.2.2)))
                                  refine s_on 203 rfl (congrArg Value.bool h226) (o_move (v := (S (readS (((mendR (Dv.mk (Pw.mk false false 0 0) la60 []) 3).2).p) (((mendR (Dv.mk (Pw.mk false false 0 0) la60 []) 3).2).la) (((mendR (Dv.mk (Pw.mk false false 0 0) la60 []) 3).2).lo) 0))) rfl ?_)
                                  refine s_on 203 rfl (congrArg Value.bool h226) (o_move (v := (S (List.replicate ((256 : Int)).toNat (0 : UInt8)))) rfl ?_)
                                  refine s_on 203 rfl (congrArg Value.bool h226) (o_ssl_h Tryz.underlying9 rfl rfl (by omega) (by first | omega | (simp only [List.length_append, List.length_replicate]; omega)) ?_)
                                  refine s_on 203 rfl (congrArg Value.bool h226) (o_seql (a := (readS (((mendR (Dv.mk (Pw.mk false false 0 0) la60 []) 3).2).p) (((mendR (Dv.mk (Pw.mk false false 0 0) la60 []) 3).2).la) (((mendR (Dv.mk (Pw.mk false false 0 0) la60 []) 3).2).lo) 0)) (b := (List.replicate ((256 : Int)).toNat (0 : UInt8)).take 64) rfl rfl ?_)
                                  refine s_op (o_pick_t (u := (.bool (decide ((readS (((mendR (Dv.mk (Pw.mk false false 0 0) la60 []) 3).2).p) (((mendR (Dv.mk (Pw.mk false false 0 0) la60 []) 3).2).la) (((mendR (Dv.mk (Pw.mk false false 0 0) la60 []) 3).2).lo) 0) = (List.replicate ((256 : Int)).toNat (0 : UInt8)).take 64)))) ((rfl : _ = _).trans (congrArg Value.bool h226)) rfl ?_)
                                  refine s_op (o_assign (v := (.bool (decide ((readS (((mendR (Dv.mk (Pw.mk false false 0 0) la60 []) 3).2).p) (((mendR (Dv.mk (Pw.mk false false 0 0) la60 []) 3).2).la) (((mendR (Dv.mk (Pw.mk false false 0 0) la60 []) 3).2).lo) 0) = (List.replicate ((256 : Int)).toNat (0 : UInt8)).take 64)))) rfl ?_)
                                  refine s_nil ?_
                                  refine t_norm (hK221 _ _ ?_)
                                  refine wp_ret ?_
                                  refine c_ret1 Tryz.results6  (v := (.bool (decide ((readS (((mendR (Dv.mk (Pw.mk false false 0 0) la60 []) 3).2).p) (((mendR (Dv.mk (Pw.mk false false 0 0) la60 []) 3).2).la) (((mendR (Dv.mk (Pw.mk false false 0 0) la60 []) 3).2).lo) 0) = (List.replicate ((256 : Int)).toNat (0 : UInt8)).take 64)))) rfl ?_
                                  have hH227 : Has E w225 [R] := (hH224.front 11 rfl).first 1 rfl
                                  exact ⟨by first | rfl | (rw [decide_eq_true hS_]) | (rw [decide_eq_true hm9_]), hH227⟩
                                · -- not: (decide (((readR bz51).2.1) = ((pgOf (pgB ((mendR (Dv.mk (Pw.mk false false 0 0) la60 []) 3).2).la (plc ((IntKind.wrap .u64 no) % 3))) ((IntKind.wrap .u64 no) % 3)).1.1) ∧ ((readR bz51).2.2.1) = ((pgOf (pgB ((mendR (Dv.mk (Pw.mk false false 0 0) la60 []) 3).2).la (plc ((IntKind.wrap .u64 no) % 3))) ((IntKind.wrap .u64 no) % 3)).1.2.1) ∧ ((readR bz51).2.2.2) = ((pgOf (pgB ((mendR (Dv.mk (Pw.mk false false 0 0) la60 []) 3).2).la (plc ((IntKind.wrap .u64 no) % 3))) ((IntKind.wrap .u64 no) % 3)).1.2.2)))
                                  exact absurd h226 (by rw [hpf_]; simp)
                              · -- not: (pgOf (pgB ((mendR (Dv.mk (Pw.mk false false 0 0) la60 []) 3).2).la (plc ((IntKind.wrap .u64 no) % 3))) ((IntKind.wrap .u64 no) % 3)).2 = 0
                                exact absurd (by rw [hpf_]) h222
                        · -- not: (readR bz51).2.1 = (IntKind.wrap .u64 no) % 3
                          have hb_ : (readR bz51).2.1 = (x0.toNat : Int) - 1 := by rw [hre1_]; exact g5_
                          have hTF : TO (mendR (Dv.mk (Pw.mk false false 0 0) la60 []) 3).2.la (zer 64) (pgB (mendR (Dv.mk (Pw.mk false false 0 0) la60 []) 3).2.la 1) bz61 ((IntKind.wrap .u64 no) % 3) := by have h_ := hD_.2.2.1; rw [if_neg (by rw [← hre1_]; exact h185)] at h_; exact h_
                          have hpo_ : pgOf (pgB (mendR (Dv.mk (Pw.mk false false 0 0) la60 []) 3).2.la (plc ((readR bz51).2.1))) ((readR bz51).2.1) = ((readR bz51).2, 0) := by rw [hre1_, hD_.2.2.2.2]; exact pgOf_yes ⟨g4_, rfl⟩
                          refine wp_seq_k fun K228 hK228 => ?_
                          refine c_region ?_
                          refine s_op (o_move (v := (.pointer (some ⟨tb146, 0, none⟩))) rfl ?_)
                          refine s_op (o_fieldAddr (k := 0) (fun _ => by kernel_rfl) rfl ?_)
                          refine s_op (o_load1 (v := (.int .i64 ((readR bz51).2.1))) Tryz.underlying3 rfl rfl hH176 (seg_sub 0 rfl) (CellsAt.one rfl) ?_)
                          refine s_op (o_callf (vs := #[(.pointer (some ⟨tb146, 0, none⟩)), (.int .i64 ((readR bz51).2.1))]) ca24 rfl (args2 rfl rfl) (tpage_on (d := (mendR (Dv.mk (Pw.mk false false 0 0) la60 []) 3).2) (n := 3) (((hH176.front 3 rfl).front 5 rfl).front 5 rfl).all3 hd145 hlo_ hon_ h64_ (by rw [hln_]; decide) ⟨by decide, by decide⟩ (by rw [hln_]; decide) (hg.mono (seg_sub 4 rfl)) (x := (readR bz51).2.1) ⟨by omega, by omega⟩) ?_)
                          rintro _ w234 ⟨v229, hs230, rfl, ho231, hX232⟩
                          refine ⟨_, rfl, ?_⟩
                          have hH233 : Has E w234 [hs230, sg144, [Hp.one pb26 (.cells #[(.bool ((mendR (Dv.mk (Pw.mk false false 0 0) la60 []) 3).2).p.off), (.bool ((mendR (Dv.mk (Pw.mk false false 0 0) la60 []) 3).2).p.armed), (.int .i64 ((mendR (Dv.mk (Pw.mk false false 0 0) la60 []) 3).2).p.left), (.int .i64 ((mendR (Dv.mk (Pw.mk false false 0 0) la60 []) 3).2).p.uses)] 101 (0, 0))], [Hp.one tb146 (.cells #[(.pointer (some ⟨db25, 0, none⟩)), (.int .i64 3)] 98 (0, 0))], [Hp.one b169 (.cells #[(.int .i64 ((readR bz51).2.1)), (.int .i64 ((readR bz51).2.2.1)), v163] 36 (0, 0))], s164, s152, s40, R] := hX232.of_all4
                          refine s_op (o_move (v := (.tuple #[(.agg #[(.int .i64 ((pgOf (pgB ((mendR (Dv.mk (Pw.mk false false 0 0) la60 []) 3).2).la (plc ((readR bz51).2.1))) ((readR bz51).2.1)).1.1)), (.int .i64 ((pgOf (pgB ((mendR (Dv.mk (Pw.mk false false 0 0) la60 []) 3).2).la (plc ((readR bz51).2.1))) ((readR bz51).2.1)).1.2.1)), v229]), (.int .i64 ((pgOf (pgB ((mendR (Dv.mk (Pw.mk false false 0 0) la60 []) 3).2).la (plc ((readR bz51).2.1))) ((readR bz51).2.1)).2))])) rfl ?_)
                          refine s_op (o_extract (v := (.agg #[(.int .i64 ((pgOf (pgB ((mendR (Dv.mk (Pw.mk false false 0 0) la60 []) 3).2).la (plc ((readR bz51).2.1))) ((readR bz51).2.1)).1.1)), (.int .i64 ((pgOf (pgB ((mendR (Dv.mk (Pw.mk false false 0 0) la60 []) 3).2).la (plc ((readR bz51).2.1))) ((readR bz51).2.1)).1.2.1)), v229])) rfl rfl ?_)
                          refine s_op (o_extract (v := (.int .i64 ((pgOf (pgB ((mendR (Dv.mk (Pw.mk false false 0 0) la60 []) 3).2).la (plc ((readR bz51).2.1))) ((readR bz51).2.1)).2))) rfl rfl ?_)
                          refine s_op (o_alloc (cs := #[(.int .i64 0), (.int .i64 0), (.slice none 0 0)]) ti36 rfl hH233 fun b235 w236 hH237 => ?_)
                          refine s_eff (o_storeN (vs := [(.int .i64 ((pgOf (pgB ((mendR (Dv.mk (Pw.mk false false 0 0) la60 []) 3).2).la (plc ((readR bz51).2.1))) ((readR bz51).2.1)).1.1)), (.int .i64 ((pgOf (pgB ((mendR (Dv.mk (Pw.mk false false 0 0) la60 []) 3).2).la (plc ((readR bz51).2.1))) ((readR bz51).2.1)).1.2.1)), v229]) (c' := #[(.int .i64 ((pgOf (pgB ((mendR (Dv.mk (Pw.mk false false 0 0) la60 []) 3).2).la (plc ((readR bz51).2.1))) ((readR bz51).2.1)).1.1)), (.int .i64 ((pgOf (pgB ((mendR (Dv.mk (Pw.mk false false 0 0) la60 []) 3).2).la (plc ((readR bz51).2.1))) ((readR bz51).2.1)).1.2.1)), v229]) ti36 rfl rfl rfl rfl (by intro u hu; simp only [List.mem_cons, List.not_mem_nil, or_false] at hu; rcases hu with rfl | rfl | rfl <;> first | rfl | exact ho231.one) (by simp) (by kernel_rfl) (hH237.front 0 rfl) fun w238 hH239 => ?_)
                          refine s_op (o_assign (v := (.int .i64 ((pgOf (pgB ((mendR (Dv.mk (Pw.mk false false 0 0) la60 []) 3).2).la (plc ((readR bz51).2.1))) ((readR bz51).2.1)).2))) rfl ?_)
                          refine s_nil ?_
                          refine t_norm (hK228 _ _ ?_)
                          refine wp_seq_k fun K240 hK240 => ?_
                          refine c_region ?_
                          refine s_op (o_move (v := (.int .i64 ((pgOf (pgB ((mendR (Dv.mk (Pw.mk false false 0 0) la60 []) 3).2).la (plc ((readR bz51).2.1))) ((readR bz51).2.1)).2))) rfl ?_)
                          refine s_op (o_neq (a := (pgOf (pgB ((mendR (Dv.mk (Pw.mk false false 0 0) la60 []) 3).2).la (plc ((readR bz51).2.1))) ((readR bz51).2.1)).2) (b := 0) rfl rfl ?_)
                          refine s_op (o_move (v := (.bool (decide ((pgOf (pgB ((mendR (Dv.mk (Pw.mk false false 0 0) la60 []) 3).2).la (plc ((readR bz51).2.1))) ((readR bz51).2.1)).2 ≠ 0)))) rfl ?_)
                          by_cases h241 : (pgOf (pgB ((mendR (Dv.mk (Pw.mk false false 0 0) la60 []) 3).2).la (plc ((readR bz51).2.1))) ((readR bz51).2.1)).2 ≠ 0
                          · -- (pgOf (pgB ((mendR (Dv.mk (Pw.mk false false 0 0) la60 []) 3).2).la (plc ((readR bz51).2.1))) ((readR bz51).2.1)).2 ≠ 0
                            exact absurd (by rw [hpo_]) h241
                          · -- not: (pgOf (pgB ((mendR (Dv.mk (Pw.mk false false 0 0) la60 []) 3).2).la (plc ((readR bz51).2.1))) ((readR bz51).2.1)).2 ≠ 0
                            refine s_on 133 rfl (congrArg Value.bool (decide_eq_false h241)) (o_loadN (cs := [(.int .i64 ((readR bz51).2.1)), (.int .i64 ((readR bz51).2.2.1)), v163]) Tryz.underlying36 rfl ti36 rfl hH239 (seg_sub 5 rfl) (CellsAt.one rfl) ?_)
                            refine s_on 133 rfl (congrArg Value.bool (decide_eq_false h241)) (o_loadN (cs := [(.int .i64 ((pgOf (pgB ((mendR (Dv.mk (Pw.mk false false 0 0) la60 []) 3).2).la (plc ((readR bz51).2.1))) ((readR bz51).2.1)).1.1)), (.int .i64 ((pgOf (pgB ((mendR (Dv.mk (Pw.mk false false 0 0) la60 []) 3).2).la (plc ((readR bz51).2.1))) ((readR bz51).2.1)).1.2.1)), v229]) Tryz.underlying36 rfl ti36 rfl hH239 (seg_sub 0 rfl) (CellsAt.one rfl) ?_)
                            refine s_on 133 rfl (congrArg Value.bool (decide_eq_false h241)) (o_callf (vs := #[(.agg #[(.int .i64 ((readR bz51).2.1)), (.int .i64 ((readR bz51).2.2.1)), v163]), (.agg #[(.int .i64 ((pgOf (pgB ((mendR (Dv.mk (Pw.mk false false 0 0) la60 []) 3).2).la (plc ((readR bz51).2.1))) ((readR bz51).2.1)).1.1)), (.int .i64 ((pgOf (pgB ((mendR (Dv.mk (Pw.mk false false 0 0) la60 []) 3).2).la (plc ((readR bz51).2.1))) ((readR bz51).2.1)).1.2.1)), v229])]) ca25 rfl (args2 rfl rfl) (r11same_c (noa := (readR bz51).2.1) (gsna := (readR bz51).2.2.1) (la := ((readR bz51).2.2.2)) (nob := (pgOf (pgB ((mendR (Dv.mk (Pw.mk false false 0 0) la60 []) 3).2).la (plc ((readR bz51).2.1))) ((readR bz51).2.1)).1.1) (gsnb := (pgOf (pgB ((mendR (Dv.mk (Pw.mk false false 0 0) la60 []) 3).2).la (plc ((readR bz51).2.1))) ((readR bz51).2.1)).1.2.1) (lb := (pgOf (pgB ((mendR (Dv.mk (Pw.mk false false 0 0) la60 []) 3).2).la (plc ((readR bz51).2.1))) ((readR bz51).2.1)).1.2.2) hH239.all (ho165.sl.mono (seg_sub 6 rfl)) (ho231.sl.mono (seg_sub 1 rfl))) ?_)
                            rintro _ w244 ⟨rfl, hX242⟩
                            refine ⟨_, rfl, ?_⟩
                            have hH243 := hX242.of_all
                            refine s_on 133 rfl (congrArg Value.bool (decide_eq_false h241)) (o_not rfl ?_)
                            refine s_op (o_pick_f (u := (.bool (!(decide (((readR bz51).2.1) = ((pgOf (pgB ((mendR (Dv.mk (Pw.mk false false 0 0) la60 []) 3).2).la (plc ((readR bz51).2.1))) ((readR bz51).2.1)).1.1) ∧ ((readR bz51).2.2.1) = ((pgOf (pgB ((mendR (Dv.mk (Pw.mk false false 0 0) la60 []) 3).2).la (plc ((readR bz51).2.1))) ((readR bz51).2.1)).1.2.1) ∧ ((readR bz51).2.2.2) = ((pgOf (pgB ((mendR (Dv.mk (Pw.mk false false 0 0) la60 []) 3).2).la (plc ((readR bz51).2.1))) ((readR bz51).2.1)).1.2.2)))))) ((rfl : _ = _).trans (congrArg Value.bool (decide_eq_false h241))) rfl ?_)
                            refine s_nil ?_
                            refine t_norm (hK240 _ _ ?_)
                            refine c_condb rfl (fun h245 => ?_) (fun h245 => ?_)
                            · -- !(decide (((readR bz51).2.1) = ((pgOf (pgB ((mendR (Dv.mk (Pw.mk false false 0 0) la60 []) 3).2).la (plc ((readR bz51).2.1))) ((readR bz51).2.1)).1.1) ∧ ((readR bz51).2.2.1) = ((pgOf (pgB ((mendR (Dv.mk (Pw.mk false false 0 0) la60 []) 3).2).la (plc ((readR bz51).2.1))) ((readR bz51).2.1)).1.2.1) ∧ ((readR bz51).2.2.2) = ((pgOf (pgB ((mendR (Dv.mk (Pw.mk false false 0 0) la60 []) 3).2).la (plc ((readR bz51).2.1))) ((readR bz51).2.1)).1.2.2)))
                              have h245_n : (decide (((readR bz51).2.1) = ((pgOf (pgB ((mendR (Dv.mk (Pw.mk false false 0 0) la60 []) 3).2).la (plc ((readR bz51).2.1))) ((readR bz51).2.1)).1.1) ∧ ((readR bz51).2.2.1) = ((pgOf (pgB ((mendR (Dv.mk (Pw.mk false false 0 0) la60 []) 3).2).la (plc ((readR bz51).2.1))) ((readR bz51).2.1)).1.2.1) ∧ ((readR bz51).2.2.2) = ((pgOf (pgB ((mendR (Dv.mk (Pw.mk false false 0 0) la60 []) 3).2).la (plc ((readR bz51).2.1))) ((readR bz51).2.1)).1.2.2))) = false := by first | simpa using h245 | exact Bool.of_not_eq_true (fun g_ => by rw [g_] at h245; cases h245)
                              exact absurd h245 (by rw [hpo_]; simp)
                            · -- not: !(decide (((readR bz51).2.1) = ((pgOf (pgB ((mendR (Dv.mk (Pw.mk false false 0 0) la60 []) 3).2).la (plc ((readR bz51).2.1))) ((readR bz51).2.1)).1.1) ∧ ((readR bz51).2.2.1) = ((pgOf (pgB ((mendR (Dv.mk (Pw.mk false false 0 0) la60 []) 3).2).la (plc ((readR bz51).2.1))) ((readR bz51).2.1)).1.2.1) ∧ ((readR bz51).2.2.2) = ((pgOf (pgB ((mendR (Dv.mk (Pw.mk false false 0 0) la60 []) 3).2).la (plc ((readR bz51).2.1))) ((readR bz51).2.1)).1.2.2)))
                              have h245_n : (decide (((readR bz51).2.1) = ((pgOf (pgB ((mendR (Dv.mk (Pw.mk false false 0 0) la60 []) 3).2).la (plc ((readR bz51).2.1))) ((readR bz51).2.1)).1.1) ∧ ((readR bz51).2.2.1) = ((pgOf (pgB ((mendR (Dv.mk (Pw.mk false false 0 0) la60 []) 3).2).la (plc ((readR bz51).2.1))) ((readR bz51).2.1)).1.2.1) ∧ ((readR bz51).2.2.2) = ((pgOf (pgB ((mendR (Dv.mk (Pw.mk false false 0 0) la60 []) 3).2).la (plc ((readR bz51).2.1))) ((readR bz51).2.1)).1.2.2))) = true := by first | simpa using h245 | exact Bool.of_not_eq_false (fun g_ => by rw [g_] at h245; cases h245)
                              refine wp_skip ?_
                              refine t_norm (hK159 _ _ ?_)
                              refine wp_seq_k fun K246 hK246 => ?_
                              refine wp_seq_k fun K247 hK247 => ?_
                              refine c_region ?_
                              refine s_op (o_move (v := (.pointer (some ⟨tb146, 0, none⟩))) rfl ?_)
                              refine s_op (o_pnil (p := some _) Tryz.underlying25 rfl rfl ?_)
                              refine s_op (o_move (v := (.bool false)) rfl ?_)
                              refine s_on 141 rfl rfl (o_move (v := (.int .i64 (0 : Int))) rfl ?_)
                              refine s_on 141 rfl rfl (o_neq (a := (0 : Int)) (b := 0) rfl rfl ?_)
                              refine s_op (o_pick_f (u := (.bool false)) rfl rfl ?_)
                              refine s_nil ?_
                              refine t_norm (hK247 _ _ ?_)
                              refine c_false rfl rfl ?_
                              refine wp_skip ?_
                              refine t_norm (hK246 _ _ ?_)
                              refine wp_seq_k fun K248 hK248 => ?_
                              refine c_region ?_
                              refine s_op (o_move (v := (.pointer (some ⟨db25, 0, none⟩))) rfl ?_)
                              refine s_op (o_callf (vs := #[(.pointer (some ⟨db25, 0, none⟩)), (.int .i64 0)]) ca32 rfl (args2 rfl rfl) (read_d (p := ((mendR (Dv.mk (Pw.mk false false 0 0) la60 []) 3).2).p) (la := ((mendR (Dv.mk (Pw.mk false false 0 0) la60 []) 3).2).la) (lo := ((mendR (Dv.mk (Pw.mk false false 0 0) la60 []) 3).2).lo) ((hH243.front 3 rfl).front 3 rfl).all2 hd145 0) ?_)
                              rintro _ w251 ⟨rfl, hX249⟩
                              refine ⟨_, rfl, ?_⟩
                              have hH250 : Has E w251 [sg144, [Hp.one pb26 (.cells #[(.bool ((mendR (Dv.mk (Pw.mk false false 0 0) la60 []) 3).2).p.off), (.bool ((mendR (Dv.mk (Pw.mk false false 0 0) la60 []) 3).2).p.armed), (.int .i64 ((mendR (Dv.mk (Pw.mk false false 0 0) la60 []) 3).2).p.left), (.int .i64 ((mendR (Dv.mk (Pw.mk false false 0 0) la60 []) 3).2).p.uses)] 101 (0, 0))], [Hp.one b235 (.cells #[(.int .i64 ((pgOf (pgB ((mendR (Dv.mk (Pw.mk false false 0 0) la60 []) 3).2).la (plc ((readR bz51).2.1))) ((readR bz51).2.1)).1.1)), (.int .i64 ((pgOf (pgB ((mendR (Dv.mk (Pw.mk false false 0 0) la60 []) 3).2).la (plc ((readR bz51).2.1))) ((readR bz51).2.1)).1.2.1)), v229] 36 (0, 0))], hs230, [Hp.one tb146 (.cells #[(.pointer (some ⟨db25, 0, none⟩)), (.int .i64 3)] 98 (0, 0))], [Hp.one b169 (.cells #[(.int .i64 ((readR bz51).2.1)), (.int .i64 ((readR bz51).2.2.1)), v163] 36 (0, 0))], s164, s152, s40, R] := hX249.of_all2
                              refine s_op (o_move (v := (.tuple #[(S (readS (((mendR (Dv.mk (Pw.mk false false 0 0) la60 []) 3).2).p) (((mendR (Dv.mk (Pw.mk false false 0 0) la60 []) 3).2).la) (((mendR (Dv.mk (Pw.mk false false 0 0) la60 []) 3).2).lo) 0)), (.int .i64 (readE (((mendR (Dv.mk (Pw.mk false false 0 0) la60 []) 3).2).p) (((mendR (Dv.mk (Pw.mk false false 0 0) la60 []) 3).2).la) 0))])) rfl ?_)
                              refine s_op (o_extract (v := (S (readS (((mendR (Dv.mk (Pw.mk false false 0 0) la60 []) 3).2).p) (((mendR (Dv.mk (Pw.mk false false 0 0) la60 []) 3).2).la) (((mendR (Dv.mk (Pw.mk false false 0 0) la60 []) 3).2).lo) 0))) rfl rfl ?_)
                              refine s_op (o_extract (v := (.int .i64 (readE (((mendR (Dv.mk (Pw.mk false false 0 0) la60 []) 3).2).p) (((mendR (Dv.mk (Pw.mk false false 0 0) la60 []) 3).2).la) 0))) rfl rfl ?_)
                              refine s_op (o_assign (v := (S (readS (((mendR (Dv.mk (Pw.mk false false 0 0) la60 []) 3).2).p) (((mendR (Dv.mk (Pw.mk false false 0 0) la60 []) 3).2).la) (((mendR (Dv.mk (Pw.mk false false 0 0) la60 []) 3).2).lo) 0))) rfl ?_)
                              refine s_op (o_assign (v := (.int .i64 (readE (((mendR (Dv.mk (Pw.mk false false 0 0) la60 []) 3).2).p) (((mendR (Dv.mk (Pw.mk false false 0 0) la60 []) 3).2).la) 0))) rfl ?_)
                              refine s_nil ?_
                              refine t_norm (hK248 _ _ ?_)
                              refine wp_seq_k fun K252 hK252 => ?_
                              refine c_region ?_
                              refine s_op (o_move (v := (.pointer (some ⟨tb146, 0, none⟩))) rfl ?_)
                              refine s_op (o_move (v := (.int .i64 ((IntKind.wrap .u64 no) % 3))) rfl ?_)
                              refine s_op (o_callf (vs := #[(.pointer (some ⟨tb146, 0, none⟩)), (.int .i64 ((IntKind.wrap .u64 no) % 3))]) ca24 rfl (args2 rfl rfl) (tpage_on (d := (mendR (Dv.mk (Pw.mk false false 0 0) la60 []) 3).2) (n := 3) (((hH250.front 4 rfl).front 2 rfl).front 2 rfl).all3 hd145 hlo_ hon_ h64_ (by rw [hln_]; decide) ⟨by decide, by decide⟩ (by rw [hln_]; decide) (hg.mono (seg_sub 6 rfl)) (x := (IntKind.wrap .u64 no) % 3) ⟨by omega, by omega⟩) ?_)
                              rintro _ w258 ⟨v253, hs254, rfl, ho255, hX256⟩
                              refine ⟨_, rfl, ?_⟩
                              have hH257 : Has E w258 [hs254, sg144, [Hp.one pb26 (.cells #[(.bool ((mendR (Dv.mk (Pw.mk false false 0 0) la60 []) 3).2).p.off), (.bool ((mendR (Dv.mk (Pw.mk false false 0 0) la60 []) 3).2).p.armed), (.int .i64 ((mendR (Dv.mk (Pw.mk false false 0 0) la60 []) 3).2).p.left), (.int .i64 ((mendR (Dv.mk (Pw.mk false false 0 0) la60 []) 3).2).p.uses)] 101 (0, 0))], [Hp.one tb146 (.cells #[(.pointer (some ⟨db25, 0, none⟩)), (.int .i64 3)] 98 (0, 0))], [Hp.one b235 (.cells #[(.int .i64 ((pgOf (pgB ((mendR (Dv.mk (Pw.mk false false 0 0) la60 []) 3).2).la (plc ((readR bz51).2.1))) ((readR bz51).2.1)).1.1)), (.int .i64 ((pgOf (pgB ((mendR (Dv.mk (Pw.mk false false 0 0) la60 []) 3).2).la (plc ((readR bz51).2.1))) ((readR bz51).2.1)).1.2.1)), v229] 36 (0, 0))], hs230, [Hp.one b169 (.cells #[(.int .i64 ((readR bz51).2.1)), (.int .i64 ((readR bz51).2.2.1)), v163] 36 (0, 0))], s164, s152, s40, R] := hX256.of_all4
                              refine s_op (o_move (v := (.tuple #[(.agg #[(.int .i64 ((pgOf (pgB ((mendR (Dv.mk (Pw.mk false false 0 0) la60 []) 3).2).la (plc ((IntKind.wrap .u64 no) % 3))) ((IntKind.wrap .u64 no) % 3)).1.1)), (.int .i64 ((pgOf (pgB ((mendR (Dv.mk (Pw.mk false false 0 0) la60 []) 3).2).la (plc ((IntKind.wrap .u64 no) % 3))) ((IntKind.wrap .u64 no) % 3)).1.2.1)), v253]), (.int .i64 ((pgOf (pgB ((mendR (Dv.mk (Pw.mk false false 0 0) la60 []) 3).2).la (plc ((IntKind.wrap .u64 no) % 3))) ((IntKind.wrap .u64 no) % 3)).2))])) rfl ?_)
                              refine s_op (o_extract (v := (.agg #[(.int .i64 ((pgOf (pgB ((mendR (Dv.mk (Pw.mk false false 0 0) la60 []) 3).2).la (plc ((IntKind.wrap .u64 no) % 3))) ((IntKind.wrap .u64 no) % 3)).1.1)), (.int .i64 ((pgOf (pgB ((mendR (Dv.mk (Pw.mk false false 0 0) la60 []) 3).2).la (plc ((IntKind.wrap .u64 no) % 3))) ((IntKind.wrap .u64 no) % 3)).1.2.1)), v253])) rfl rfl ?_)
                              refine s_op (o_extract (v := (.int .i64 ((pgOf (pgB ((mendR (Dv.mk (Pw.mk false false 0 0) la60 []) 3).2).la (plc ((IntKind.wrap .u64 no) % 3))) ((IntKind.wrap .u64 no) % 3)).2))) rfl rfl ?_)
                              refine s_op (o_alloc (cs := #[(.int .i64 0), (.int .i64 0), (.slice none 0 0)]) ti36 rfl hH257 fun b259 w260 hH261 => ?_)
                              refine s_eff (o_storeN (vs := [(.int .i64 ((pgOf (pgB ((mendR (Dv.mk (Pw.mk false false 0 0) la60 []) 3).2).la (plc ((IntKind.wrap .u64 no) % 3))) ((IntKind.wrap .u64 no) % 3)).1.1)), (.int .i64 ((pgOf (pgB ((mendR (Dv.mk (Pw.mk false false 0 0) la60 []) 3).2).la (plc ((IntKind.wrap .u64 no) % 3))) ((IntKind.wrap .u64 no) % 3)).1.2.1)), v253]) (c' := #[(.int .i64 ((pgOf (pgB ((mendR (Dv.mk (Pw.mk false false 0 0) la60 []) 3).2).la (plc ((IntKind.wrap .u64 no) % 3))) ((IntKind.wrap .u64 no) % 3)).1.1)), (.int .i64 ((pgOf (pgB ((mendR (Dv.mk (Pw.mk false false 0 0) la60 []) 3).2).la (plc ((IntKind.wrap .u64 no) % 3))) ((IntKind.wrap .u64 no) % 3)).1.2.1)), v253]) ti36 rfl rfl rfl rfl (by intro u hu; simp only [List.mem_cons, List.not_mem_nil, or_false] at hu; rcases hu with rfl | rfl | rfl <;> first | rfl | exact ho255.one) (by simp) (by kernel_rfl) (hH261.front 0 rfl) fun w262 hH263 => ?_)
                              refine s_op (o_assign (v := (.int .i64 ((pgOf (pgB ((mendR (Dv.mk (Pw.mk false false 0 0) la60 []) 3).2).la (plc ((IntKind.wrap .u64 no) % 3))) ((IntKind.wrap .u64 no) % 3)).2))) rfl ?_)
                              refine s_nil ?_
                              refine t_norm (hK252 _ _ ?_)
                              refine wp_seq_k fun K264 hK264 => ?_
                              refine c_region ?_
                              refine s_op (o_move (v := (S bz61)) rfl ?_)
                              refine s_op (o_callf (vs := #[(S bz61)]) ca31 rfl (args1 rfl) (r11read_c (s := bz61) hH263.all ) ?_)
                              rintro _ w270 ⟨v265, s266, rfl, ho267, hX268⟩
                              refine ⟨_, rfl, ?_⟩
                              have hH269 : Has E w270 [s266, [Hp.one b259 (.cells #[(.int .i64 ((pgOf (pgB ((mendR (Dv.mk (Pw.mk false false 0 0) la60 []) 3).2).la (plc ((IntKind.wrap .u64 no) % 3))) ((IntKind.wrap .u64 no) % 3)).1.1)), (.int .i64 ((pgOf (pgB ((mendR (Dv.mk (Pw.mk false false 0 0) la60 []) 3).2).la (plc ((IntKind.wrap .u64 no) % 3))) ((IntKind.wrap .u64 no) % 3)).1.2.1)), v253] 36 (0, 0))], hs254, sg144, [Hp.one pb26 (.cells #[(.bool ((mendR (Dv.mk (Pw.mk false false 0 0) la60 []) 3).2).p.off), (.bool ((mendR (Dv.mk (Pw.mk false false 0 0) la60 []) 3).2).p.armed), (.int .i64 ((mendR (Dv.mk (Pw.mk false false 0 0) la60 []) 3).2).p.left), (.int .i64 ((mendR (Dv.mk (Pw.mk false false 0 0) la60 []) 3).2).p.uses)] 101 (0, 0))], [Hp.one tb146 (.cells #[(.pointer (some ⟨db25, 0, none⟩)), (.int .i64 3)] 98 (0, 0))], [Hp.one b235 (.cells #[(.int .i64 ((pgOf (pgB ((mendR (Dv.mk (Pw.mk false false 0 0) la60 []) 3).2).la (plc ((readR bz51).2.1))) ((readR bz51).2.1)).1.1)), (.int .i64 ((pgOf (pgB ((mendR (Dv.mk (Pw.mk false false 0 0) la60 []) 3).2).la (plc ((readR bz51).2.1))) ((readR bz51).2.1)).1.2.1)), v229] 36 (0, 0))], hs230, [Hp.one b169 (.cells #[(.int .i64 ((readR bz51).2.1)), (.int .i64 ((readR bz51).2.2.1)), v163] 36 (0, 0))], s164, s152, s40, R] := hX268.of_all1
                              refine s_op (o_move (v := (.tuple #[(.agg #[(.int .i64 ((readR bz61).2.1)), (.int .i64 ((readR bz61).2.2.1)), v265]), (.bool ((readR bz61).1))])) rfl ?_)
                              refine s_op (o_extract (v := (.agg #[(.int .i64 ((readR bz61).2.1)), (.int .i64 ((readR bz61).2.2.1)), v265])) rfl rfl ?_)
                              refine s_op (o_extract (v := (.bool ((readR bz61).1))) rfl rfl ?_)
                              refine s_op (o_alloc (cs := #[(.int .i64 0), (.int .i64 0), (.slice none 0 0)]) ti36 rfl hH269 fun b271 w272 hH273 => ?_)
                              refine s_eff (o_storeN (vs := [(.int .i64 ((readR bz61).2.1)), (.int .i64 ((readR bz61).2.2.1)), v265]) (c' := #[(.int .i64 ((readR bz61).2.1)), (.int .i64 ((readR bz61).2.2.1)), v265]) ti36 rfl rfl rfl rfl (by intro u hu; simp only [List.mem_cons, List.not_mem_nil, or_false] at hu; rcases hu with rfl | rfl | rfl <;> first | rfl | exact ho267.one) (by simp) (by kernel_rfl) (hH273.front 0 rfl) fun w274 hH275 => ?_)
                              refine s_op (o_assign (v := (.bool ((readR bz61).1))) rfl ?_)
                              refine s_nil ?_
                              refine t_norm (hK264 _ _ ?_)
                              refine wp_seq_k fun K276 hK276 => ?_
                              refine wp_block ?_
                              refine wp_seq_k fun K277 hK277 => ?_
                              refine c_region ?_
                              refine s_op (o_move (v := (S bz61)) rfl ?_)
                              refine s_op (o_move (v := (S (List.replicate ((256 : Int)).toNat (0 : UInt8)))) rfl ?_)
                              refine s_op (o_seql (a := bz61) (b := (List.replicate ((256 : Int)).toNat (0 : UInt8))) rfl rfl ?_)
                              refine s_op (o_assign (v := (.bool (decide (bz61 = (List.replicate ((256 : Int)).toNat (0 : UInt8)))))) rfl ?_)
                              refine s_nil ?_
                              refine t_norm (hK277 _ _ ?_)
                              refine c_cond rfl (fun h278 => ?_) (fun h278 => ?_)
                              · -- bz61 = (List.replicate ((256 : Int)).toNat (0 : UInt8))
                                have hS_ : readS (mendR (Dv.mk (Pw.mk false false 0 0) la60 []) 3).2.p (mendR (Dv.mk (Pw.mk false false 0 0) la60 []) 3).2.la (mendR (Dv.mk (Pw.mk false false 0 0) la60 []) 3).2.lo 0 = ((List.replicate ((256 : Int)).toNat (0 : UInt8))).take 64 := by rw [(rd_sec (d := (mendR (Dv.mk (Pw.mk false false 0 0) la60 []) 3).2) (n := 0) hlo_ hon_ ⟨by decide, by rw [hln_]; decide⟩).1, hTF.note]; exact (zer_take 256 64 (by decide)).symm
                                have hpf_ : pgOf (pgB (mendR (Dv.mk (Pw.mk false false 0 0) la60 []) 3).2.la (plc ((IntKind.wrap .u64 no) % 3))) ((IntKind.wrap .u64 no) % 3) = (((IntKind.wrap .u64 no) % 3, 0, []), 0) := by rw [hTF.home]; exact pgOf_zer h278
                                refine wp_seq_k fun K279 hK279 => ?_
                                refine c_region ?_
                                refine s_op (o_move (v := (.int .i64 ((pgOf (pgB ((mendR (Dv.mk (Pw.mk false false 0 0) la60 []) 3).2).la (plc ((IntKind.wrap .u64 no) % 3))) ((IntKind.wrap .u64 no) % 3)).2))) rfl ?_)
                                refine s_op (o_eql (a := (pgOf (pgB ((mendR (Dv.mk (Pw.mk false false 0 0) la60 []) 3).2).la (plc ((IntKind.wrap .u64 no) % 3))) ((IntKind.wrap .u64 no) % 3)).2) (b := 0) rfl rfl ?_)
                                refine s_op (o_move (v := (.bool (decide ((pgOf (pgB ((mendR (Dv.mk (Pw.mk false false 0 0) la60 []) 3).2).la (plc ((IntKind.wrap .u64 no) % 3))) ((IntKind.wrap .u64 no) % 3)).2 = 0)))) rfl ?_)
                                by_cases h280 : (pgOf (pgB ((mendR (Dv.mk (Pw.mk false false 0 0) la60 []) 3).2).la (plc ((IntKind.wrap .u64 no) % 3))) ((IntKind.wrap .u64 no) % 3)).2 = 0
                                · -- (pgOf (pgB ((mendR (Dv.mk (Pw.mk false false 0 0) la60 []) 3).2).la (plc ((IntKind.wrap .u64 no) % 3))) ((IntKind.wrap .u64 no) % 3)).2 = 0
                                  refine s_on 167 rfl (congrArg Value.bool (decide_eq_true h280)) (o_loadN (cs := [(.int .i64 ((pgOf (pgB ((mendR (Dv.mk (Pw.mk false false 0 0) la60 []) 3).2).la (plc ((IntKind.wrap .u64 no) % 3))) ((IntKind.wrap .u64 no) % 3)).1.1)), (.int .i64 ((pgOf (pgB ((mendR (Dv.mk (Pw.mk false false 0 0) la60 []) 3).2).la (plc ((IntKind.wrap .u64 no) % 3))) ((IntKind.wrap .u64 no) % 3)).1.2.1)), v253]) Tryz.underlying36 rfl ti36 rfl hH275 (seg_sub 2 rfl) (CellsAt.one rfl) ?_)
                                  refine s_on 167 rfl (congrArg Value.bool (decide_eq_true h280)) (o_move (v := (.int .i64 ((IntKind.wrap .u64 no) % 3))) rfl ?_)
                                  refine s_on 167 rfl (congrArg Value.bool (decide_eq_true h280)) (o_sight (v := (.agg #[(.int .i64 ((IntKind.wrap .u64 no) % 3)), (.int .i64 0), (.slice none 0 0)])) (fun _ => by kernel_rfl) ?_)
                                  refine s_on 167 rfl (congrArg Value.bool (decide_eq_true h280)) (o_callf (vs := #[(.agg #[(.int .i64 ((pgOf (pgB ((mendR (Dv.mk (Pw.mk false false 0 0) la60 []) 3).2).la (plc ((IntKind.wrap .u64 no) % 3))) ((IntKind.wrap .u64 no) % 3)).1.1)), (.int .i64 ((pgOf (pgB ((mendR (Dv.mk (Pw.mk false false 0 0) la60 []) 3).2).la (plc ((IntKind.wrap .u64 no) % 3))) ((IntKind.wrap .u64 no) % 3)).1.2.1)), v253]), (.agg #[(.int .i64 ((IntKind.wrap .u64 no) % 3)), (.int .i64 0), (.slice none 0 0)])]) ca25 rfl (args2 rfl rfl) (r11same_c (noa := (pgOf (pgB ((mendR (Dv.mk (Pw.mk false false 0 0) la60 []) 3).2).la (plc ((IntKind.wrap .u64 no) % 3))) ((IntKind.wrap .u64 no) % 3)).1.1) (gsna := (pgOf (pgB ((mendR (Dv.mk (Pw.mk false false 0 0) la60 []) 3).2).la (plc ((IntKind.wrap .u64 no) % 3))) ((IntKind.wrap .u64 no) % 3)).1.2.1) (la := (pgOf (pgB ((mendR (Dv.mk (Pw.mk false false 0 0) la60 []) 3).2).la (plc ((IntKind.wrap .u64 no) % 3))) ((IntKind.wrap .u64 no) % 3)).1.2.2) (nob := (IntKind.wrap .u64 no) % 3) (gsnb := 0) (lb := ([] : List Cel)) hH275.all (ho255.sl.mono (seg_sub 3 rfl)) (sl_nil 2)) ?_)
                                  rintro _ w283 ⟨rfl, hX281⟩
                                  refine ⟨_, rfl, ?_⟩
                                  have hH282 := hX281.of_all
                                  refine s_op (o_pick_t (u := (.bool (decide (((pgOf (pgB ((mendR (Dv.mk (Pw.mk false false 0 0) la60 []) 3).2).la (plc ((IntKind.wrap .u64 no) % 3))) ((IntKind.wrap .u64 no) % 3)).1.1) = ((IntKind.wrap .u64 no) % 3) ∧ ((pgOf (pgB ((mendR (Dv.mk (Pw.mk false false 0 0) la60 []) 3).2).la (plc ((IntKind.wrap .u64 no) % 3))) ((IntKind.wrap .u64 no) % 3)).1.2.1) = 0 ∧ ((pgOf (pgB ((mendR (Dv.mk (Pw.mk false false 0 0) la60 []) 3).2).la (plc ((IntKind.wrap .u64 no) % 3))) ((IntKind.wrap .u64 no) % 3)).1.2.2) = ([] : List Cel))))) ((rfl : _ = _).trans (congrArg Value.bool (decide_eq_true h280))) rfl ?_)
                                  refine s_op (o_move (v := (.bool (decide (((pgOf (pgB ((mendR (Dv.mk (Pw.mk false false 0 0) la60 []) 3).2).la (plc ((IntKind.wrap .u64 no) % 3))) ((IntKind.wrap .u64 no) % 3)).1.1) = ((IntKind.wrap .u64 no) % 3) ∧ ((pgOf (pgB ((mendR (Dv.mk (Pw.mk false false 0 0) la60 []) 3).2).la (plc ((IntKind.wrap .u64 no) % 3))) ((IntKind.wrap .u64 no) % 3)).1.2.1) = 0 ∧ ((pgOf (pgB ((mendR (Dv.mk (Pw.mk false false 0 0) la60 []) 3).2).la (plc ((IntKind.wrap .u64 no) % 3))) ((IntKind.wrap .u64 no) % 3)).1.2.2) = ([] : List Cel))))) rfl ?_)
                                  rcases Bool.eq_false_or_eq_true (decide (((pgOf (pgB ((mendR (Dv.mk (Pw.mk false false 0 0) la60 []) 3).2).la (plc ((IntKind.wrap .u64 no) % 3))) ((IntKind.wrap .u64 no) % 3)).1.1) = ((IntKind.wrap .u64 no) % 3) ∧ ((pgOf (pgB ((mendR (Dv.mk (Pw.mk false false 0 0) la60 []) 3).2).la (plc ((IntKind.wrap .u64 no) % 3))) ((IntKind.wrap .u64 no) % 3)).1.2.1) = 0 ∧ ((pgOf (pgB ((mendR (Dv.mk (Pw.mk false false 0 0) la60 []) 3).2).la (plc ((IntKind.wrap .u64 no) % 3))) ((IntKind.wrap .u64 no) % 3)).1.2.2) = ([] : List Cel))) with h284 | h284
                                  · -- (decide (((pgOf (pgB ((mendR (Dv.mk (Pw.mk false false 0 0) la60 []) 3).2).la (plc ((IntKind.wrap .u64 no) % 3))) ((IntKind.wrap .u64 no) % 3)).1.1) = ((IntKind.wrap .u64 no) % 3) ∧ ((pgOf (pgB ((mendR (Dv.mk (Pw.mk false false 0 0) la60 []) 3).2).la (plc ((IntKind.wrap .u64 no) % 3))) ((IntKind.wrap .u64 no) % 3)).1.2.1) = 0 ∧ ((pgOf (pgB ((mendR (Dv.mk (Pw.mk false false 0 0) la60 []) 3).2).la (plc ((IntKind.wrap .u64 no) % 3))) ((IntKind.wrap .u64 no) % 3)).1.2.2) = ([] : List Cel)))
                                    refine s_on 173 rfl (congrArg Value.bool h284) (o_move (v := (S (readS (((mendR (Dv.mk (Pw.mk false false 0 0) la60 []) 3).2).p) (((mendR (Dv.mk (Pw.mk false false 0 0) la60 []) 3).2).la) (((mendR (Dv.mk (Pw.mk false false 0 0) la60 []) 3).2).lo) 0))) rfl ?_)
                                    refine s_on 173 rfl (congrArg Value.bool h284) (o_move (v := (S (List.replicate ((256 : Int)).toNat (0 : UInt8)))) rfl ?_)
                                    refine s_on 173 rfl (congrArg Value.bool h284) (o_ssl_h Tryz.underlying9 rfl rfl (by omega) (by first | omega | (simp only [List.length_append, List.length_replicate]; omega)) ?_)
                                    refine s_on 173 rfl (congrArg Value.bool h284) (o_seql (a := (readS (((mendR (Dv.mk (Pw.mk false false 0 0) la60 []) 3).2).p) (((mendR (Dv.mk (Pw.mk false false 0 0) la60 []) 3).2).la) (((mendR (Dv.mk (Pw.mk false false 0 0) la60 []) 3).2).lo) 0)) (b := (List.replicate ((256 : Int)).toNat (0 : UInt8)).take 64) rfl rfl ?_)
                                    refine s_op (o_pick_t (u := (.bool (decide ((readS (((mendR (Dv.mk (Pw.mk false false 0 0) la60 []) 3).2).p) (((mendR (Dv.mk (Pw.mk false false 0 0) la60 []) 3).2).la) (((mendR (Dv.mk (Pw.mk false false 0 0) la60 []) 3).2).lo) 0) = (List.replicate ((256 : Int)).toNat (0 : UInt8)).take 64)))) ((rfl : _ = _).trans (congrArg Value.bool h284)) rfl ?_)
                                    refine s_op (o_assign (v := (.bool (decide ((readS (((mendR (Dv.mk (Pw.mk false false 0 0) la60 []) 3).2).p) (((mendR (Dv.mk (Pw.mk false false 0 0) la60 []) 3).2).la) (((mendR (Dv.mk (Pw.mk false false 0 0) la60 []) 3).2).lo) 0) = (List.replicate ((256 : Int)).toNat (0 : UInt8)).take 64)))) rfl ?_)
                                    refine s_nil ?_
                                    refine t_norm (hK279 _ _ ?_)
                                    refine wp_ret ?_
                                    refine b_ret (t_ret (c_ret1 Tryz.results6  (v := (.bool (decide ((readS (((mendR (Dv.mk (Pw.mk false false 0 0) la60 []) 3).2).p) (((mendR (Dv.mk (Pw.mk false false 0 0) la60 []) 3).2).la) (((mendR (Dv.mk (Pw.mk false false 0 0) la60 []) 3).2).lo) 0) = (List.replicate ((256 : Int)).toNat (0 : UInt8)).take 64)))) rfl ?_))
                                    have hH285 : Has E w283 [R] := (hH282.front 13 rfl).first 1 rfl
                                    exact ⟨by first | rfl | (rw [decide_eq_true hS_]) | (rw [decide_eq_true hm9_]), hH285⟩
                                  · -- not: (decide (((pgOf (pgB ((mendR (Dv.mk (Pw.mk false false 0 0) la60 []) 3).2).la (plc ((IntKind.wrap .u64 no) % 3))) ((IntKind.wrap .u64 no) % 3)).1.1) = ((IntKind.wrap .u64 no) % 3) ∧ ((pgOf (pgB ((mendR (Dv.mk (Pw.mk false false 0 0) la60 []) 3).2).la (plc ((IntKind.wrap .u64 no) % 3))) ((IntKind.wrap .u64 no) % 3)).1.2.1) = 0 ∧ ((pgOf (pgB ((mendR (Dv.mk (Pw.mk false false 0 0) la60 []) 3).2).la (plc ((IntKind.wrap .u64 no) % 3))) ((IntKind.wrap .u64 no) % 3)).1.2.2) = ([] : List Cel)))
                                    exact absurd h284 (by rw [hpf_]; simp)
                                · -- not: (pgOf (pgB ((mendR (Dv.mk (Pw.mk false false 0 0) la60 []) 3).2).la (plc ((IntKind.wrap .u64 no) % 3))) ((IntKind.wrap .u64 no) % 3)).2 = 0
                                  exact absurd (by rw [hpf_]) h280
                              · -- not: bz61 = (List.replicate ((256 : Int)).toNat (0 : UInt8))
                                have hS_ : readS (mendR (Dv.mk (Pw.mk false false 0 0) la60 []) 3).2.p (mendR (Dv.mk (Pw.mk false false 0 0) la60 []) 3).2.la (mendR (Dv.mk (Pw.mk false false 0 0) la60 []) 3).2.lo 0 = ((List.replicate ((256 : Int)).toNat (0 : UInt8))).take 64 := by rw [(rd_sec (d := (mendR (Dv.mk (Pw.mk false false 0 0) la60 []) 3).2) (n := 0) hlo_ hon_ ⟨by decide, by rw [hln_]; decide⟩).1, hTF.note]; exact (zer_take 256 64 (by decide)).symm
                                refine wp_seq_k fun K286 hK286 => ?_
                                refine c_region ?_
                                refine s_op (o_move (v := (.bool ((readR bz61).1))) rfl ?_)
                                refine s_op (o_not rfl ?_)
                                refine s_op (o_move (v := (.bool (!((readR bz61).1)))) rfl ?_)
                                rcases Bool.eq_false_or_eq_true (!((readR bz61).1)) with h287 | h287
                                · -- !((readR bz61).1)
                                  have h287_n : ((readR bz61).1) = false := by first | simpa using h287 | exact Bool.of_not_eq_true (fun g_ => by rw [g_] at h287; cases h287)
                                  have hpf_ : pgOf (pgB (mendR (Dv.mk (Pw.mk false false 0 0) la60 []) 3).2.la (plc ((IntKind.wrap .u64 no) % 3))) ((IntKind.wrap .u64 no) % 3) = ((0, 0, []), 9) := by rw [hTF.home]; exact pgOf_no h278 (fun g_ => absurd g_.1 (by rw [← hre2_]; simpa using h287))
                                  refine s_off (b' := true) 182 rfl (congrArg Value.bool h287) rfl ?_
                                  refine s_off (b' := true) 182 rfl (congrArg Value.bool h287) rfl ?_
                                  refine s_off (b' := true) 182 rfl (congrArg Value.bool h287) rfl ?_
                                  refine s_off (b' := true) 182 rfl (congrArg Value.bool h287) rfl ?_
                                  refine s_op (o_pick_t (u := (.bool true)) ((rfl : _ = _).trans (congrArg Value.bool h287)) rfl ?_)
                                  refine s_op (o_assign (v := (.bool true)) rfl ?_)
                                  refine s_nil ?_
                                  refine t_norm (hK286 _ _ ?_)
                                  refine c_true rfl rfl ?_
                                  refine wp_seq_k fun K288 hK288 => ?_
                                  refine c_region ?_
                                  refine s_op (o_move (v := (.int .i64 ((pgOf (pgB ((mendR (Dv.mk (Pw.mk false false 0 0) la60 []) 3).2).la (plc ((IntKind.wrap .u64 no) % 3))) ((IntKind.wrap .u64 no) % 3)).2))) rfl ?_)
                                  refine s_op (o_eql (a := (pgOf (pgB ((mendR (Dv.mk (Pw.mk false false 0 0) la60 []) 3).2).la (plc ((IntKind.wrap .u64 no) % 3))) ((IntKind.wrap .u64 no) % 3)).2) (b := 9) rfl rfl ?_)
                                  refine s_op (o_move (v := (.bool (decide ((pgOf (pgB ((mendR (Dv.mk (Pw.mk false false 0 0) la60 []) 3).2).la (plc ((IntKind.wrap .u64 no) % 3))) ((IntKind.wrap .u64 no) % 3)).2 = 9)))) rfl ?_)
                                  by_cases h289 : (pgOf (pgB ((mendR (Dv.mk (Pw.mk false false 0 0) la60 []) 3).2).la (plc ((IntKind.wrap .u64 no) % 3))) ((IntKind.wrap .u64 no) % 3)).2 = 9
                                  · -- (pgOf (pgB ((mendR (Dv.mk (Pw.mk false false 0 0) la60 []) 3).2).la (plc ((IntKind.wrap .u64 no) % 3))) ((IntKind.wrap .u64 no) % 3)).2 = 9
                                    refine s_on 190 rfl (congrArg Value.bool (decide_eq_true h289)) (o_move (v := (S (readS (((mendR (Dv.mk (Pw.mk false false 0 0) la60 []) 3).2).p) (((mendR (Dv.mk (Pw.mk false false 0 0) la60 []) 3).2).la) (((mendR (Dv.mk (Pw.mk false false 0 0) la60 []) 3).2).lo) 0))) rfl ?_)
                                    refine s_on 190 rfl (congrArg Value.bool (decide_eq_true h289)) (o_move (v := (S (List.replicate ((256 : Int)).toNat (0 : UInt8)))) rfl ?_)
                                    refine s_on 190 rfl (congrArg Value.bool (decide_eq_true h289)) (o_ssl_h Tryz.underlying9 rfl rfl (by omega) (by first | omega | (simp only [List.length_append, List.length_replicate]; omega)) ?_)
                                    refine s_on 190 rfl (congrArg Value.bool (decide_eq_true h289)) (o_seql (a := (readS (((mendR (Dv.mk (Pw.mk false false 0 0) la60 []) 3).2).p) (((mendR (Dv.mk (Pw.mk false false 0 0) la60 []) 3).2).la) (((mendR (Dv.mk (Pw.mk false false 0 0) la60 []) 3).2).lo) 0)) (b := (List.replicate ((256 : Int)).toNat (0 : UInt8)).take 64) rfl rfl ?_)
                                    refine s_op (o_pick_t (u := (.bool (decide ((readS (((mendR (Dv.mk (Pw.mk false false 0 0) la60 []) 3).2).p) (((mendR (Dv.mk (Pw.mk false false 0 0) la60 []) 3).2).la) (((mendR (Dv.mk (Pw.mk false false 0 0) la60 []) 3).2).lo) 0) = (List.replicate ((256 : Int)).toNat (0 : UInt8)).take 64)))) ((rfl : _ = _).trans (congrArg Value.bool (decide_eq_true h289))) rfl ?_)
                                    refine s_op (o_assign (v := (.bool (decide ((readS (((mendR (Dv.mk (Pw.mk false false 0 0) la60 []) 3).2).p) (((mendR (Dv.mk (Pw.mk false false 0 0) la60 []) 3).2).la) (((mendR (Dv.mk (Pw.mk false false 0 0) la60 []) 3).2).lo) 0) = (List.replicate ((256 : Int)).toNat (0 : UInt8)).take 64)))) rfl ?_)
                                    refine s_nil ?_
                                    refine t_norm (hK288 _ _ ?_)
                                    refine wp_ret ?_
                                    refine b_ret (t_ret (c_ret1 Tryz.results6  (v := (.bool (decide ((readS (((mendR (Dv.mk (Pw.mk false false 0 0) la60 []) 3).2).p) (((mendR (Dv.mk (Pw.mk false false 0 0) la60 []) 3).2).la) (((mendR (Dv.mk (Pw.mk false false 0 0) la60 []) 3).2).lo) 0) = (List.replicate ((256 : Int)).toNat (0 : UInt8)).take 64)))) rfl ?_))
                                    have hH290 : Has E w274 [R] := (hH275.front 13 rfl).first 1 rfl
                                    exact ⟨by first | rfl | (rw [decide_eq_true hS_]) | (rw [decide_eq_true hm9_]), hH290⟩
                                  · -- not: (pgOf (pgB ((mendR (Dv.mk (Pw.mk false false 0 0) la60 []) 3).2).la (plc ((IntKind.wrap .u64 no) % 3))) ((IntKind.wrap .u64 no) % 3)).2 = 9
                                    exact absurd (by rw [hpf_]) h289
                                · -- not: !((readR bz61).1)
                                  have h287_n : ((readR bz61).1) = true := by first | simpa using h287 | exact Bool.of_not_eq_false (fun g_ => by rw [g_] at h287; cases h287)
                                  refine s_on 182 rfl (congrArg Value.bool h287) (o_fieldAddr (k := 0) (fun _ => by kernel_rfl) rfl ?_)
                                  refine s_on 182 rfl (congrArg Value.bool h287) (o_load1 (v := (.int .i64 ((readR bz61).2.1))) Tryz.underlying3 rfl rfl hH275 (seg_sub 0 rfl) (CellsAt.one rfl) ?_)
                                  refine s_on 182 rfl (congrArg Value.bool h287) (o_move (v := (.int .i64 ((IntKind.wrap .u64 no) % 3))) rfl ?_)
                                  refine s_on 182 rfl (congrArg Value.bool h287) (o_neq (a := (readR bz61).2.1) (b := (IntKind.wrap .u64 no) % 3) rfl rfl ?_)
                                  refine s_op (o_pick_f (u := (.bool (decide ((readR bz61).2.1 ≠ (IntKind.wrap .u64 no) % 3)))) ((rfl : _ = _).trans (congrArg Value.bool h287)) rfl ?_)
                                  refine s_op (o_assign (v := (.bool (decide ((readR bz61).2.1 ≠ (IntKind.wrap .u64 no) % 3)))) rfl ?_)
                                  refine s_nil ?_
                                  refine t_norm (hK286 _ _ ?_)
                                  refine c_cond rfl (fun h291 => ?_) (fun h291 => ?_)
                                  · -- (readR bz61).2.1 ≠ (IntKind.wrap .u64 no) % 3
                                    have hpf_ : pgOf (pgB (mendR (Dv.mk (Pw.mk false false 0 0) la60 []) 3).2.la (plc ((IntKind.wrap .u64 no) % 3))) ((IntKind.wrap .u64 no) % 3) = ((0, 0, []), 9) := by rw [hTF.home]; exact pgOf_no h278 (fun g_ => h291 (by rw [hre2_]; exact g_.2))
                                    refine wp_seq_k fun K292 hK292 => ?_
                                    refine c_region ?_
                                    refine s_op (o_move (v := (.int .i64 ((pgOf (pgB ((mendR (Dv.mk (Pw.mk false false 0 0) la60 []) 3).2).la (plc ((IntKind.wrap .u64 no) % 3))) ((IntKind.wrap .u64 no) % 3)).2))) rfl ?_)
                                    refine s_op (o_eql (a := (pgOf (pgB ((mendR (Dv.mk (Pw.mk false false 0 0) la60 []) 3).2).la (plc ((IntKind.wrap .u64 no) % 3))) ((IntKind.wrap .u64 no) % 3)).2) (b := 9) rfl rfl ?_)
                                    refine s_op (o_move (v := (.bool (decide ((pgOf (pgB ((mendR (Dv.mk (Pw.mk false false 0 0) la60 []) 3).2).la (plc ((IntKind.wrap .u64 no) % 3))) ((IntKind.wrap .u64 no) % 3)).2 = 9)))) rfl ?_)
                                    by_cases h293 : (pgOf (pgB ((mendR (Dv.mk (Pw.mk false false 0 0) la60 []) 3).2).la (plc ((IntKind.wrap .u64 no) % 3))) ((IntKind.wrap .u64 no) % 3)).2 = 9
                                    · -- (pgOf (pgB ((mendR (Dv.mk (Pw.mk false false 0 0) la60 []) 3).2).la (plc ((IntKind.wrap .u64 no) % 3))) ((IntKind.wrap .u64 no) % 3)).2 = 9
                                      refine s_on 190 rfl (congrArg Value.bool (decide_eq_true h293)) (o_move (v := (S (readS (((mendR (Dv.mk (Pw.mk false false 0 0) la60 []) 3).2).p) (((mendR (Dv.mk (Pw.mk false false 0 0) la60 []) 3).2).la) (((mendR (Dv.mk (Pw.mk false false 0 0) la60 []) 3).2).lo) 0))) rfl ?_)
                                      refine s_on 190 rfl (congrArg Value.bool (decide_eq_true h293)) (o_move (v := (S (List.replicate ((256 : Int)).toNat (0 : UInt8)))) rfl ?_)
                                      refine s_on 190 rfl (congrArg Value.bool (decide_eq_true h293)) (o_ssl_h Tryz.underlying9 rfl rfl (by omega) (by first | omega | (simp only [List.length_append, List.length_replicate]; omega)) ?_)
                                      refine s_on 190 rfl (congrArg Value.bool (decide_eq_true h293)) (o_seql (a := (readS (((mendR (Dv.mk (Pw.mk false false 0 0) la60 []) 3).2).p) (((mendR (Dv.mk (Pw.mk false false 0 0) la60 []) 3).2).la) (((mendR (Dv.mk (Pw.mk false false 0 0) la60 []) 3).2).lo) 0)) (b := (List.replicate ((256 : Int)).toNat (0 : UInt8)).take 64) rfl rfl ?_)
                                      refine s_op (o_pick_t (u := (.bool (decide ((readS (((mendR (Dv.mk (Pw.mk false false 0 0) la60 []) 3).2).p) (((mendR (Dv.mk (Pw.mk false false 0 0) la60 []) 3).2).la) (((mendR (Dv.mk (Pw.mk false false 0 0) la60 []) 3).2).lo) 0) = (List.replicate ((256 : Int)).toNat (0 : UInt8)).take 64)))) ((rfl : _ = _).trans (congrArg Value.bool (decide_eq_true h293))) rfl ?_)
                                      refine s_op (o_assign (v := (.bool (decide ((readS (((mendR (Dv.mk (Pw.mk false false 0 0) la60 []) 3).2).p) (((mendR (Dv.mk (Pw.mk false false 0 0) la60 []) 3).2).la) (((mendR (Dv.mk (Pw.mk false false 0 0) la60 []) 3).2).lo) 0) = (List.replicate ((256 : Int)).toNat (0 : UInt8)).take 64)))) rfl ?_)
                                      refine s_nil ?_
                                      refine t_norm (hK292 _ _ ?_)
                                      refine wp_ret ?_
                                      refine b_ret (t_ret (c_ret1 Tryz.results6  (v := (.bool (decide ((readS (((mendR (Dv.mk (Pw.mk false false 0 0) la60 []) 3).2).p) (((mendR (Dv.mk (Pw.mk false false 0 0) la60 []) 3).2).la) (((mendR (Dv.mk (Pw.mk false false 0 0) la60 []) 3).2).lo) 0) = (List.replicate ((256 : Int)).toNat (0 : UInt8)).take 64)))) rfl ?_))
                                      have hH294 : Has E w274 [R] := (hH275.front 13 rfl).first 1 rfl
                                      exact ⟨by first | rfl | (rw [decide_eq_true hS_]) | (rw [decide_eq_true hm9_]), hH294⟩
                                    · -- not: (pgOf (pgB ((mendR (Dv.mk (Pw.mk false false 0 0) la60 []) 3).2).la (plc ((IntKind.wrap .u64 no) % 3))) ((IntKind.wrap .u64 no) % 3)).2 = 9
                                      exact absurd (by rw [hpf_]) h293
                                  · -- not: (readR bz61).2.1 ≠ (IntKind.wrap .u64 no) % 3
                                    have hpf_ : pgOf (pgB (mendR (Dv.mk (Pw.mk false false 0 0) la60 []) 3).2.la (plc ((IntKind.wrap .u64 no) % 3))) ((IntKind.wrap .u64 no) % 3) = ((readR bz61).2, 0) := by rw [hTF.home, hre2_]; exact pgOf_yes ⟨by rw [← hre2_]; simpa using h287, by rw [← hre2_]; exact Classical.not_not.1 h291⟩
                                    refine wp_skip ?_
                                    refine b_norm ?_
                                    refine t_norm (hK276 _ _ ?_)
                                    refine wp_seq_k fun K295 hK295 => ?_
                                    refine c_region ?_
                                    refine s_op (o_move (v := (.int .i64 ((pgOf (pgB ((mendR (Dv.mk (Pw.mk false false 0 0) la60 []) 3).2).la (plc ((IntKind.wrap .u64 no) % 3))) ((IntKind.wrap .u64 no) % 3)).2))) rfl ?_)
                                    refine s_op (o_eql (a := (pgOf (pgB ((mendR (Dv.mk (Pw.mk false false 0 0) la60 []) 3).2).la (plc ((IntKind.wrap .u64 no) % 3))) ((IntKind.wrap .u64 no) % 3)).2) (b := 0) rfl rfl ?_)
                                    refine s_op (o_move (v := (.bool (decide ((pgOf (pgB ((mendR (Dv.mk (Pw.mk false false 0 0) la60 []) 3).2).la (plc ((IntKind.wrap .u64 no) % 3))) ((IntKind.wrap .u64 no) % 3)).2 = 0)))) rfl ?_)
                                    by_cases h296 : (pgOf (pgB ((mendR (Dv.mk (Pw.mk false false 0 0) la60 []) 3).2).la (plc ((IntKind.wrap .u64 no) % 3))) ((IntKind.wrap .u64 no) % 3)).2 = 0
                                    · -- (pgOf (pgB ((mendR (Dv.mk (Pw.mk false false 0 0) la60 []) 3).2).la (plc ((IntKind.wrap .u64 no) % 3))) ((IntKind.wrap .u64 no) % 3)).2 = 0
                                      refine s_on 198 rfl (congrArg Value.bool (decide_eq_true h296)) (o_loadN (cs := [(.int .i64 ((readR bz61).2.1)), (.int .i64 ((readR bz61).2.2.1)), v265]) Tryz.underlying36 rfl ti36 rfl hH275 (seg_sub 0 rfl) (CellsAt.one rfl) ?_)
                                      refine s_on 198 rfl (congrArg Value.bool (decide_eq_true h296)) (o_loadN (cs := [(.int .i64 ((pgOf (pgB ((mendR (Dv.mk (Pw.mk false false 0 0) la60 []) 3).2).la (plc ((IntKind.wrap .u64 no) % 3))) ((IntKind.wrap .u64 no) % 3)).1.1)), (.int .i64 ((pgOf (pgB ((mendR (Dv.mk (Pw.mk false false 0 0) la60 []) 3).2).la (plc ((IntKind.wrap .u64 no) % 3))) ((IntKind.wrap .u64 no) % 3)).1.2.1)), v253]) Tryz.underlying36 rfl ti36 rfl hH275 (seg_sub 2 rfl) (CellsAt.one rfl) ?_)
                                      refine s_on 198 rfl (congrArg Value.bool (decide_eq_true h296)) (o_callf (vs := #[(.agg #[(.int .i64 ((readR bz61).2.1)), (.int .i64 ((readR bz61).2.2.1)), v265]), (.agg #[(.int .i64 ((pgOf (pgB ((mendR (Dv.mk (Pw.mk false false 0 0) la60 []) 3).2).la (plc ((IntKind.wrap .u64 no) % 3))) ((IntKind.wrap .u64 no) % 3)).1.1)), (.int .i64 ((pgOf (pgB ((mendR (Dv.mk (Pw.mk false false 0 0) la60 []) 3).2).la (plc ((IntKind.wrap .u64 no) % 3))) ((IntKind.wrap .u64 no) % 3)).1.2.1)), v253])]) ca25 rfl (args2 rfl rfl) (r11same_c (noa := (readR bz61).2.1) (gsna := (readR bz61).2.2.1) (la := ((readR bz61).2.2.2)) (nob := (pgOf (pgB ((mendR (Dv.mk (Pw.mk false false 0 0) la60 []) 3).2).la (plc ((IntKind.wrap .u64 no) % 3))) ((IntKind.wrap .u64 no) % 3)).1.1) (gsnb := (pgOf (pgB ((mendR (Dv.mk (Pw.mk false false 0 0) la60 []) 3).2).la (plc ((IntKind.wrap .u64 no) % 3))) ((IntKind.wrap .u64 no) % 3)).1.2.1) (lb := (pgOf (pgB ((mendR (Dv.mk (Pw.mk false false 0 0) la60 []) 3).2).la (plc ((IntKind.wrap .u64 no) % 3))) ((IntKind.wrap .u64 no) % 3)).1.2.2) hH275.all (ho267.sl.mono (seg_sub 1 rfl)) (ho255.sl.mono (seg_sub 3 rfl))) ?_)
                                      rintro _ w299 ⟨rfl, hX297⟩
                                      refine ⟨_, rfl, ?_⟩
                                      have hH298 := hX297.of_all
                                      refine s_op (o_pick_t (u := (.bool (decide (((readR bz61).2.1) = ((pgOf (pgB ((mendR (Dv.mk (Pw.mk false false 0 0) la60 []) 3).2).la (plc ((IntKind.wrap .u64 no) % 3))) ((IntKind.wrap .u64 no) % 3)).1.1) ∧ ((readR bz61).2.2.1) = ((pgOf (pgB ((mendR (Dv.mk (Pw.mk false false 0 0) la60 []) 3).2).la (plc ((IntKind.wrap .u64 no) % 3))) ((IntKind.wrap .u64 no) % 3)).1.2.1) ∧ ((readR bz61).2.2.2) = ((pgOf (pgB ((mendR (Dv.mk (Pw.mk false false 0 0) la60 []) 3).2).la (plc ((IntKind.wrap .u64 no) % 3))) ((IntKind.wrap .u64 no) % 3)).1.2.2))))) ((rfl : _ = _).trans (congrArg Value.bool (decide_eq_true h296))) rfl ?_)
                                      refine s_op (o_move (v := (.bool (decide (((readR bz61).2.1) = ((pgOf (pgB ((mendR (Dv.mk (Pw.mk false false 0 0) la60 []) 3).2).la (plc ((IntKind.wrap .u64 no) % 3))) ((IntKind.wrap .u64 no) % 3)).1.1) ∧ ((readR bz61).2.2.1) = ((pgOf (pgB ((mendR (Dv.mk (Pw.mk false false 0 0) la60 []) 3).2).la (plc ((IntKind.wrap .u64 no) % 3))) ((IntKind.wrap .u64 no) % 3)).1.2.1) ∧ ((readR bz61).2.2.2) = ((pgOf (pgB ((mendR (Dv.mk (Pw.mk false false 0 0) la60 []) 3).2).la (plc ((IntKind.wrap .u64 no) % 3))) ((IntKind.wrap .u64 no) % 3)).1.2.2))))) rfl ?_)
                                      rcases Bool.eq_false_or_eq_true (decide (((readR bz61).2.1) = ((pgOf (pgB ((mendR (Dv.mk (Pw.mk false false 0 0) la60 []) 3).2).la (plc ((IntKind.wrap .u64 no) % 3))) ((IntKind.wrap .u64 no) % 3)).1.1) ∧ ((readR bz61).2.2.1) = ((pgOf (pgB ((mendR (Dv.mk (Pw.mk false false 0 0) la60 []) 3).2).la (plc ((IntKind.wrap .u64 no) % 3))) ((IntKind.wrap .u64 no) % 3)).1.2.1) ∧ ((readR bz61).2.2.2) = ((pgOf (pgB ((mendR (Dv.mk (Pw.mk false false 0 0) la60 []) 3).2).la (plc ((IntKind.wrap .u64 no) % 3))) ((IntKind.wrap .u64 no) % 3)).1.2.2))) with h300 | h300
                                      · -- (decide (((readR bz61).2.1) = ((pgOf (pgB ((mendR (Dv.mk (Pw.mk false false 0 0) la60 []) 3).2).la (plc ((IntKind.wrap .u64 no) % 3))) ((IntKind.wrap .u64 no) % 3)).1.1) ∧ ((readR bz61).2.2.1) = ((pgOf (pgB ((mendR (Dv.mk (Pw.mk false false 0 0) la60 []) 3).2).la (plc ((IntKind.wrap .u64 no) % 3))) ((IntKind.wrap .u64 no) % 3)).1.2.1) ∧ ((readR bz61).2.2.2) = ((pgOf (pgB ((mendR (Dv.mk (Pw.mk false false 0 0) la60 []) 3).2).la (plc ((IntKind.wrap .u64 no) % 3))) ((IntKind.wrap .u64 no) % 3)).1.2.2)))
                                        refine s_on 203 rfl (congrArg Value.bool h300) (o_move (v := (S (readS (((mendR (Dv.mk (Pw.mk false false 0 0) la60 []) 3).2).p) (((mendR (Dv.mk (Pw.mk false false 0 0) la60 []) 3).2).la) (((mendR (Dv.mk (Pw.mk false false 0 0) la60 []) 3).2).lo) 0))) rfl ?_)
                                        refine s_on 203 rfl (congrArg Value.bool h300) (o_move (v := (S (List.replicate ((256 : Int)).toNat (0 : UInt8)))) rfl ?_)
                                        refine s_on 203 rfl (congrArg Value.bool h300) (o_ssl_h Tryz.underlying9 rfl rfl (by omega) (by first | omega | (simp only [List.length_append, List.length_replicate]; omega)) ?_)
                                        refine s_on 203 rfl (congrArg Value.bool h300) (o_seql (a := (readS (((mendR (Dv.mk (Pw.mk false false 0 0) la60 []) 3).2).p) (((mendR (Dv.mk (Pw.mk false false 0 0) la60 []) 3).2).la) (((mendR (Dv.mk (Pw.mk false false 0 0) la60 []) 3).2).lo) 0)) (b := (List.replicate ((256 : Int)).toNat (0 : UInt8)).take 64) rfl rfl ?_)
                                        refine s_op (o_pick_t (u := (.bool (decide ((readS (((mendR (Dv.mk (Pw.mk false false 0 0) la60 []) 3).2).p) (((mendR (Dv.mk (Pw.mk false false 0 0) la60 []) 3).2).la) (((mendR (Dv.mk (Pw.mk false false 0 0) la60 []) 3).2).lo) 0) = (List.replicate ((256 : Int)).toNat (0 : UInt8)).take 64)))) ((rfl : _ = _).trans (congrArg Value.bool h300)) rfl ?_)
                                        refine s_op (o_assign (v := (.bool (decide ((readS (((mendR (Dv.mk (Pw.mk false false 0 0) la60 []) 3).2).p) (((mendR (Dv.mk (Pw.mk false false 0 0) la60 []) 3).2).la) (((mendR (Dv.mk (Pw.mk false false 0 0) la60 []) 3).2).lo) 0) = (List.replicate ((256 : Int)).toNat (0 : UInt8)).take 64)))) rfl ?_)
                                        refine s_nil ?_
                                        refine t_norm (hK295 _ _ ?_)
                                        refine wp_ret ?_
                                        refine c_ret1 Tryz.results6  (v := (.bool (decide ((readS (((mendR (Dv.mk (Pw.mk false false 0 0) la60 []) 3).2).p) (((mendR (Dv.mk (Pw.mk false false 0 0) la60 []) 3).2).la) (((mendR (Dv.mk (Pw.mk false false 0 0) la60 []) 3).2).lo) 0) = (List.replicate ((256 : Int)).toNat (0 : UInt8)).take 64)))) rfl ?_
                                        have hH301 : Has E w299 [R] := (hH298.front 13 rfl).first 1 rfl
                                        exact ⟨by first | rfl | (rw [decide_eq_true hS_]) | (rw [decide_eq_true hm9_]), hH301⟩
                                      · -- not: (decide (((readR bz61).2.1) = ((pgOf (pgB ((mendR (Dv.mk (Pw.mk false false 0 0) la60 []) 3).2).la (plc ((IntKind.wrap .u64 no) % 3))) ((IntKind.wrap .u64 no) % 3)).1.1) ∧ ((readR bz61).2.2.1) = ((pgOf (pgB ((mendR (Dv.mk (Pw.mk false false 0 0) la60 []) 3).2).la (plc ((IntKind.wrap .u64 no) % 3))) ((IntKind.wrap .u64 no) % 3)).1.2.1) ∧ ((readR bz61).2.2.2) = ((pgOf (pgB ((mendR (Dv.mk (Pw.mk false false 0 0) la60 []) 3).2).la (plc ((IntKind.wrap .u64 no) % 3))) ((IntKind.wrap .u64 no) % 3)).1.2.2)))
                                        exact absurd h300 (by rw [hpf_]; simp)
                                    · -- not: (pgOf (pgB ((mendR (Dv.mk (Pw.mk false false 0 0) la60 []) 3).2).la (plc ((IntKind.wrap .u64 no) % 3))) ((IntKind.wrap .u64 no) % 3)).2 = 0
                                      exact absurd (by rw [hpf_]) h296
            · -- not: nt ++ (List.replicate (64 - (nt.length : Int)).toNat (0 : UInt8)) ≠ (List.replicate ((256 : Int)).toNat (0 : UInt8)).take 64
              exact absurd ((Classical.not_not.1 h161).trans (zer_take 256 64 (by decide))) hc68
          · -- no
            have hm_ := to_B (p := (Pw.mk false false 0 0)) hTO hNl_ hc68 hx0 hc143 rfl
            have hm9_ : (mendR (Dv.mk (Pw.mk false false 0 0) la60 []) 3).1 = 9 := by rw [hm_]
            refine s_op (o_callf (vs := #[(.pointer (some ⟨db25, 0, none⟩)), (.int .i64 3)]) ca21 rfl (args2 rfl rfl) (topen_err (d := (Dv.mk (Pw.mk false false 0 0) la60 [])) ((hH65.front 1 rfl).front 1 rfl).all2 hd59 (n := 3) Few.new (by omega) rfl (by show la60.length ≤ 4096; rw [hlnla60]; decide) ⟨by decide, by decide⟩ (by show (5 : Int) + 3 * 4 ≤ ((la60.length : Nat) : Int); rw [hlnla60]; decide) (hg.mono (seg_sub 1 rfl)) hTO.full rfl (by rw [hm_]; show (9 : Int) ≠ 0; decide)) ?_)
            rintro _ w306 ⟨sg302, rfl, hd303, hX304⟩
            refine ⟨_, rfl, ?_⟩
            have hH305 : Has E w306 [sg302, [Hp.one pb26 (.cells #[(.bool ((mendR (Dv.mk (Pw.mk false false 0 0) la60 []) 3).2).p.off), (.bool ((mendR (Dv.mk (Pw.mk false false 0 0) la60 []) 3).2).p.armed), (.int .i64 ((mendR (Dv.mk (Pw.mk false false 0 0) la60 []) 3).2).p.left), (.int .i64 ((mendR (Dv.mk (Pw.mk false false 0 0) la60 []) 3).2).p.uses)] 101 (0, 0))], s40, R] := hX304.of_all2
            refine s_op (o_move (v := (.tuple #[(.pointer none), (.int .i64 ((mendR (Dv.mk (Pw.mk false false 0 0) la60 []) 3).1))])) rfl ?_)
            refine s_op (o_extract (v := (.pointer none)) rfl rfl ?_)
            refine s_op (o_extract (v := (.int .i64 ((mendR (Dv.mk (Pw.mk false false 0 0) la60 []) 3).1))) rfl rfl ?_)
            refine s_op (o_assign (v := (.pointer none)) rfl ?_)
            refine s_op (o_assign (v := (.int .i64 ((mendR (Dv.mk (Pw.mk false false 0 0) la60 []) 3).1))) rfl ?_)
            refine s_nil ?_
            refine t_norm (hK67 _ _ ?_)
            refine wp_seq_k fun K307 hK307 => ?_
            refine c_region ?_
            refine s_op (o_make Tryz.underlying54 ti5 rfl rfl (by omega) (by omega) (by omega) (by omega) hH305 fun v308 s309 w311 ho310 hH312 => ?_)
            have ho313 : Own 5 1 v308 (List.replicate ((256 : Int)).toNat (0 : UInt8)).length ((List.replicate ((256 : Int)).toNat (0 : UInt8)).map bV) s309 := by rw [List.length_replicate, List.map_replicate, ← made_rep]; exact ho310
            obtain ⟨p314, c315, rfl⟩ := (Own.sl ho310).form
            refine s_op (o_bstr Tryz.underlying54 Tryz.underlying5 Tryz.underlying9 rfl ho313.sl hH312 (seg_sub 0 rfl) ?_)
            refine s_op (o_assign (v := (S (List.replicate ((256 : Int)).toNat (0 : UInt8)))) rfl ?_)
            refine s_nil ?_
            refine t_norm (hK307 _ _ ?_)
            refine wp_seq_k fun K316 hK316 => ?_
            refine wp_seq_k fun K317 hK317 => ?_
            refine c_region ?_
            refine s_op (o_move (v := (S (nt ++ (List.replicate (64 - (nt.length : Int)).toNat (0 : UInt8))))) rfl ?_)
            refine s_op (o_move (v := (S (List.replicate ((256 : Int)).toNat (0 : UInt8)))) rfl ?_)
            refine s_op (o_ssl_h Tryz.underlying9 rfl rfl (by omega) (by first | omega | (simp only [List.length_append, List.length_replicate]; omega)) ?_)
            refine s_op (o_sneq (a := nt ++ (List.replicate (64 - (nt.length : Int)).toNat (0 : UInt8))) (b := (List.replicate ((256 : Int)).toNat (0 : UInt8)).take 64) rfl rfl ?_)
            refine s_nil ?_
            refine t_norm (hK317 _ _ ?_)
            refine c_cond rfl (fun h318 => ?_) (fun h318 => ?_)
            · -- nt ++ (List.replicate (64 - (nt.length : Int)).toNat (0 : UInt8)) ≠ (List.replicate ((256 : Int)).toNat (0 : UInt8)).take 64
              refine wp_seq_k fun K319 hK319 => ?_
              refine c_region ?_
              refine s_op (o_move (v := (S bz51)) rfl ?_)
              refine s_op (o_callf (vs := #[(S bz51)]) ca31 rfl (args1 rfl) (r11read_c (s := bz51) hH312.all ) ?_)
              rintro _ w325 ⟨v320, s321, rfl, ho322, hX323⟩
              refine ⟨_, rfl, ?_⟩
              have hH324 : Has E w325 [s321, s309, sg302, [Hp.one pb26 (.cells #[(.bool ((mendR (Dv.mk (Pw.mk false false 0 0) la60 []) 3).2).p.off), (.bool ((mendR (Dv.mk (Pw.mk false false 0 0) la60 []) 3).2).p.armed), (.int .i64 ((mendR (Dv.mk (Pw.mk false false 0 0) la60 []) 3).2).p.left), (.int .i64 ((mendR (Dv.mk (Pw.mk false false 0 0) la60 []) 3).2).p.uses)] 101 (0, 0))], s40, R] := hX323.of_all1
              refine s_op (o_move (v := (.tuple #[(.agg #[(.int .i64 ((readR bz51).2.1)), (.int .i64 ((readR bz51).2.2.1)), v320]), (.bool ((readR bz51).1))])) rfl ?_)
              refine s_op (o_extract (v := (.agg #[(.int .i64 ((readR bz51).2.1)), (.int .i64 ((readR bz51).2.2.1)), v320])) rfl rfl ?_)
              refine s_op (o_extract (v := (.bool ((readR bz51).1))) rfl rfl ?_)
              refine s_op (o_alloc (cs := #[(.int .i64 0), (.int .i64 0), (.slice none 0 0)]) ti36 rfl hH324 fun b326 w327 hH328 => ?_)
              refine s_eff (o_storeN (vs := [(.int .i64 ((readR bz51).2.1)), (.int .i64 ((readR bz51).2.2.1)), v320]) (c' := #[(.int .i64 ((readR bz51).2.1)), (.int .i64 ((readR bz51).2.2.1)), v320]) ti36 rfl rfl rfl rfl (by intro u hu; simp only [List.mem_cons, List.not_mem_nil, or_false] at hu; rcases hu with rfl | rfl | rfl <;> first | rfl | exact ho322.one) (by simp) (by kernel_rfl) (hH328.front 0 rfl) fun w329 hH330 => ?_)
              refine s_op (o_assign (v := (.bool ((readR bz51).1))) rfl ?_)
              refine s_nil ?_
              refine t_norm (hK319 _ _ ?_)
              refine wp_seq_k fun K331 hK331 => ?_
              refine wp_seq_k fun K332 hK332 => ?_
              refine Rest.region mixed (by kernel_rfl) ?_
              have hH333 : Has E { w329 with drawn := w329.drawn + 1 } [[Hp.one b326 (.cells #[(.int .i64 ((readR bz51).2.1)), (.int .i64 ((readR bz51).2.2.1)), v320] 36 (0, 0))], s321, s309, sg302, [Hp.one pb26 (.cells #[(.bool ((mendR (Dv.mk (Pw.mk false false 0 0) la60 []) 3).2).p.off), (.bool ((mendR (Dv.mk (Pw.mk false false 0 0) la60 []) 3).2).p.armed), (.int .i64 ((mendR (Dv.mk (Pw.mk false false 0 0) la60 []) 3).2).p.left), (.int .i64 ((mendR (Dv.mk (Pw.mk false false 0 0) la60 []) 3).2).p.uses)] 101 (0, 0))], s40, R] := Has0.drew hH330 _
              refine r_op 0 rfl (by kernel_rfl) (o_move (v := (S (nt ++ (List.replicate (64 - (nt.length : Int)).toNat (0 : UInt8))))) rfl ?_)
              refine r_op 1 rfl (by kernel_rfl) (o_sidx Tryz.underlying9 rfl rfl (by omega) hx0 ?_)
              refine r_op 2 rfl (by kernel_rfl) (o_lss (a := (x0.toNat : Int)) (b := 1) rfl rfl ?_)
              refine r_op 3 rfl (by kernel_rfl) (o_move (v := (.bool (decide ((x0.toNat : Int) < 1)))) rfl ?_)
              by_cases h334 : (x0.toNat : Int) < 1
              · -- (x0.toNat : Int) < 1
                refine r_off (b' := true) 4 rfl (by kernel_rfl) 88 rfl (congrArg Value.bool (decide_eq_true h334)) rfl ?_
                refine r_off (b' := true) 5 rfl (by kernel_rfl) 88 rfl (congrArg Value.bool (decide_eq_true h334)) rfl ?_
                refine r_off (b' := true) 6 rfl (by kernel_rfl) 88 rfl (congrArg Value.bool (decide_eq_true h334)) rfl ?_
                refine r_op 7 rfl (by kernel_rfl) (o_pick_t (u := (.bool true)) ((rfl : _ = _).trans (congrArg Value.bool (decide_eq_true h334))) rfl ?_)
                refine r_op 8 rfl (by kernel_rfl) (o_move (v := (.bool true)) rfl ?_)
                refine Rest.phaseA (fun w_ => Has E w_ []) 9 13 4 rfl (by decide) (by kernel_rfl) ?_
                refine a_off (b' := true) 9 rfl (by kernel_rfl) 93 rfl rfl rfl ?_
                refine a_off (b' := true) 10 rfl (by kernel_rfl) 93 rfl rfl rfl ?_
                refine a_off (b' := true) 11 rfl (by kernel_rfl) 93 rfl rfl rfl ?_
                refine a_off (b' := true) 12 rfl (by kernel_rfl) 93 rfl rfl rfl ?_
                have hH335 : Has E { w329 with drawn := w329.drawn + 1 } [] := hH333.first 0 rfl
                refine a_done (by kernel_rfl) hH335 ?_
                refine r_off (b' := true) 13 rfl (by kernel_rfl) 93 rfl rfl rfl ?_
                refine r_op 14 rfl (by kernel_rfl) (o_pick_t (u := (.bool true)) rfl rfl ?_)
                refine r_op 15 rfl (by kernel_rfl) (o_move (v := (.bool true)) rfl ?_)
                refine r_off (b' := true) 16 rfl (by kernel_rfl) 100 rfl rfl rfl ?_
                refine r_off (b' := true) 17 rfl (by kernel_rfl) 100 rfl rfl rfl ?_
                refine r_op 18 rfl (by kernel_rfl) (o_pick_t (u := (.bool true)) rfl rfl ?_)
                refine r_op 19 rfl (by kernel_rfl) (o_move (v := (.bool true)) rfl ?_)
                refine Rest.phaseA (fun w_ => Has E w_ []) 20 26 6 rfl (by decide) (by kernel_rfl) ?_
                refine a_off (b' := true) 20 rfl (by kernel_rfl) 104 rfl rfl rfl ?_
                refine a_off (b' := true) 21 rfl (by kernel_rfl) 104 rfl rfl rfl ?_
                refine a_off (b' := true) 22 rfl (by kernel_rfl) 104 rfl rfl rfl ?_
                refine a_off (b' := true) 23 rfl (by kernel_rfl) 104 rfl rfl rfl ?_
                refine a_off (b' := true) 24 rfl (by kernel_rfl) 104 rfl rfl rfl ?_
                refine a_off (b' := true) 25 rfl (by kernel_rfl) 104 rfl rfl rfl ?_
                have hH336 : Has E { w329 with drawn := w329.drawn + 1 } [] := hH333.first 0 rfl
                refine a_done (by kernel_rfl) hH336 ?_
                refine r_off (b' := true) 26 rfl (by kernel_rfl) 104 rfl rfl rfl ?_
                refine r_op 27 rfl (by kernel_rfl) (o_pick_t (u := (.bool true)) rfl rfl ?_)
                refine Rest.done (by kernel_rfl) ?_
                refine t_norm (hK332 _ _ ?_)
                refine c_true rfl rfl ?_
                refine wp_seq_k fun K337 hK337 => ?_
                refine c_region ?_
                refine s_op (o_move (v := (.pointer none)) rfl ?_)
                refine s_op (o_pnil (p := none) Tryz.underlying25 rfl rfl ?_)
                refine s_op (o_move (v := (.bool true)) rfl ?_)
                refine s_on 115 rfl rfl (o_move (v := (.int .i64 ((mendR (Dv.mk (Pw.mk false false 0 0) la60 []) 3).1))) rfl ?_)
                refine s_on 115 rfl rfl (o_eql (a := (mendR (Dv.mk (Pw.mk false false 0 0) la60 []) 3).1) (b := 9) rfl rfl ?_)
                refine s_op (o_pick_t (u := (.bool (decide ((mendR (Dv.mk (Pw.mk false false 0 0) la60 []) 3).1 = 9)))) rfl rfl ?_)
                refine s_op (o_assign (v := (.bool (decide ((mendR (Dv.mk (Pw.mk false false 0 0) la60 []) 3).1 = 9)))) rfl ?_)
                refine s_nil ?_
                refine t_norm (hK337 _ _ ?_)
                refine wp_ret ?_
                refine t_ret (t_ret (c_ret1 Tryz.results6  (v := (.bool (decide ((mendR (Dv.mk (Pw.mk false false 0 0) la60 []) 3).1 = 9)))) rfl ?_))
                have hH338 : Has E { w329 with drawn := w329.drawn + 1 } [R] := (hH333.front 6 rfl).first 1 rfl
                exact ⟨by first | rfl | (rw [decide_eq_true hS_]) | (rw [decide_eq_true hm9_]), hH338⟩
              · -- not: (x0.toNat : Int) < 1
                refine r_on 4 rfl (by kernel_rfl) 88 rfl (congrArg Value.bool (decide_eq_false h334)) (o_move (v := (S (nt ++ (List.replicate (64 - (nt.length : Int)).toNat (0 : UInt8))))) rfl ?_)
                refine r_on 5 rfl (by kernel_rfl) 88 rfl (congrArg Value.bool (decide_eq_false h334)) (o_sidx Tryz.underlying9 rfl rfl (by omega) hx0 ?_)
                refine r_on 6 rfl (by kernel_rfl) 88 rfl (congrArg Value.bool (decide_eq_false h334)) (o_gtr (a := (x0.toNat : Int)) (b := 3) rfl rfl ?_)
                refine r_op 7 rfl (by kernel_rfl) (o_pick_f (u := (.bool (decide (3 < (x0.toNat : Int))))) ((rfl : _ = _).trans (congrArg Value.bool (decide_eq_false h334))) rfl ?_)
                refine r_op 8 rfl (by kernel_rfl) (o_move (v := (.bool (decide (3 < (x0.toNat : Int))))) rfl ?_)
                refine Rest.phaseA (fun w_ => Has E w_ []) 9 13 4 rfl (by decide) (by kernel_rfl) ?_
                by_cases h339 : 3 < (x0.toNat : Int)
                · -- 3 < (x0.toNat : Int)
                  refine a_off (b' := true) 9 rfl (by kernel_rfl) 93 rfl (congrArg Value.bool (decide_eq_true h339)) rfl ?_
                  refine a_off (b' := true) 10 rfl (by kernel_rfl) 93 rfl (congrArg Value.bool (decide_eq_true h339)) rfl ?_
                  refine a_off (b' := true) 11 rfl (by kernel_rfl) 93 rfl (congrArg Value.bool (decide_eq_true h339)) rfl ?_
                  refine a_off (b' := true) 12 rfl (by kernel_rfl) 93 rfl (congrArg Value.bool (decide_eq_true h339)) rfl ?_
                  have hH340 : Has E { w329 with drawn := w329.drawn + 1 } [] := hH333.first 0 rfl
                  refine a_done (by kernel_rfl) hH340 ?_
                  refine r_off (b' := true) 13 rfl (by kernel_rfl) 93 rfl (congrArg Value.bool (decide_eq_true h339)) rfl ?_
                  refine r_op 14 rfl (by kernel_rfl) (o_pick_t (u := (.bool true)) ((rfl : _ = _).trans (congrArg Value.bool (decide_eq_true h339))) rfl ?_)
                  refine r_op 15 rfl (by kernel_rfl) (o_move (v := (.bool true)) rfl ?_)
                  refine r_off (b' := true) 16 rfl (by kernel_rfl) 100 rfl rfl rfl ?_
                  refine r_off (b' := true) 17 rfl (by kernel_rfl) 100 rfl rfl rfl ?_
                  refine r_op 18 rfl (by kernel_rfl) (o_pick_t (u := (.bool true)) rfl rfl ?_)
                  refine r_op 19 rfl (by kernel_rfl) (o_move (v := (.bool true)) rfl ?_)
                  refine Rest.phaseA (fun w_ => Has E w_ []) 20 26 6 rfl (by decide) (by kernel_rfl) ?_
                  refine a_off (b' := true) 20 rfl (by kernel_rfl) 104 rfl rfl rfl ?_
                  refine a_off (b' := true) 21 rfl (by kernel_rfl) 104 rfl rfl rfl ?_
                  refine a_off (b' := true) 22 rfl (by kernel_rfl) 104 rfl rfl rfl ?_
                  refine a_off (b' := true) 23 rfl (by kernel_rfl) 104 rfl rfl rfl ?_
                  refine a_off (b' := true) 24 rfl (by kernel_rfl) 104 rfl rfl rfl ?_
                  refine a_off (b' := true) 25 rfl (by kernel_rfl) 104 rfl rfl rfl ?_
                  have hH341 : Has E { w329 with drawn := w329.drawn + 1 } [] := hH333.first 0 rfl
                  refine a_done (by kernel_rfl) hH341 ?_
                  refine r_off (b' := true) 26 rfl (by kernel_rfl) 104 rfl rfl rfl ?_
                  refine r_op 27 rfl (by kernel_rfl) (o_pick_t (u := (.bool true)) rfl rfl ?_)
                  refine Rest.done (by kernel_rfl) ?_
                  refine t_norm (hK332 _ _ ?_)
                  refine c_true rfl rfl ?_
                  refine wp_seq_k fun K342 hK342 => ?_
                  refine c_region ?_
                  refine s_op (o_move (v := (.pointer none)) rfl ?_)
                  refine s_op (o_pnil (p := none) Tryz.underlying25 rfl rfl ?_)
                  refine s_op (o_move (v := (.bool true)) rfl ?_)
                  refine s_on 115 rfl rfl (o_move (v := (.int .i64 ((mendR (Dv.mk (Pw.mk false false 0 0) la60 []) 3).1))) rfl ?_)
                  refine s_on 115 rfl rfl (o_eql (a := (mendR (Dv.mk (Pw.mk false false 0 0) la60 []) 3).1) (b := 9) rfl rfl ?_)
                  refine s_op (o_pick_t (u := (.bool (decide ((mendR (Dv.mk (Pw.mk false false 0 0) la60 []) 3).1 = 9)))) rfl rfl ?_)
                  refine s_op (o_assign (v := (.bool (decide ((mendR (Dv.mk (Pw.mk false false 0 0) la60 []) 3).1 = 9)))) rfl ?_)
                  refine s_nil ?_
                  refine t_norm (hK342 _ _ ?_)
                  refine wp_ret ?_
                  refine t_ret (t_ret (c_ret1 Tryz.results6  (v := (.bool (decide ((mendR (Dv.mk (Pw.mk false false 0 0) la60 []) 3).1 = 9)))) rfl ?_))
                  have hH343 : Has E { w329 with drawn := w329.drawn + 1 } [R] := (hH333.front 6 rfl).first 1 rfl
                  exact ⟨by first | rfl | (rw [decide_eq_true hS_]) | (rw [decide_eq_true hm9_]), hH343⟩
                · -- not: 3 < (x0.toNat : Int)
                  refine a_on 9 rfl (by kernel_rfl) 93 rfl (congrArg Value.bool (decide_eq_false h339)) (fun w_ h_ => o_move (v := (S (nt ++ (List.replicate (64 - (nt.length : Int)).toNat (0 : UInt8))))) rfl ⟨rfl, rfl⟩) ?_
                  refine a_on 10 rfl (by kernel_rfl) 93 rfl (congrArg Value.bool (decide_eq_false h339)) (fun w_ h_ => o_ssl_l Tryz.underlying9 rfl rfl (by omega) (by first | omega | (simp only [List.length_append, List.length_replicate]; omega)) ⟨rfl, rfl⟩) ?_
                  refine a_on 11 rfl (by kernel_rfl) 93 rfl (congrArg Value.bool (decide_eq_false h339)) (fun w_ h_ => o_move (v := (S (List.replicate ((256 : Int)).toNat (0 : UInt8)))) rfl ⟨rfl, rfl⟩) ?_
                  refine a_on 12 rfl (by kernel_rfl) 93 rfl (congrArg Value.bool (decide_eq_false h339)) (fun w_ h_ => o_ssl_h Tryz.underlying9 rfl rfl (by omega) (by first | omega | (simp only [List.length_append, List.length_replicate]; omega)) ⟨rfl, rfl⟩) ?_
                  have hH344 : Has E { w329 with drawn := w329.drawn + 1 } [] := hH333.first 0 rfl
                  refine a_done (by kernel_rfl) hH344 ?_
                  refine r_on 13 rfl (by kernel_rfl) 93 rfl (congrArg Value.bool (decide_eq_false h339)) (o_sneq (a := (nt ++ (List.replicate (64 - (nt.length : Int)).toNat (0 : UInt8))).drop 1) (b := (List.replicate ((256 : Int)).toNat (0 : UInt8)).take 63) rfl rfl ?_)
                  refine r_op 14 rfl (by kernel_rfl) (o_pick_f (u := (.bool (decide ((nt ++ (List.replicate (64 - (nt.length : Int)).toNat (0 : UInt8))).drop 1 ≠ (List.replicate ((256 : Int)).toNat (0 : UInt8)).take 63)))) ((rfl : _ = _).trans (congrArg Value.bool (decide_eq_false h339))) rfl ?_)
                  refine r_op 15 rfl (by kernel_rfl) (o_move (v := (.bool (decide ((nt ++ (List.replicate (64 - (nt.length : Int)).toNat (0 : UInt8))).drop 1 ≠ (List.replicate ((256 : Int)).toNat (0 : UInt8)).take 63)))) rfl ?_)
                  by_cases h345 : (nt ++ (List.replicate (64 - (nt.length : Int)).toNat (0 : UInt8))).drop 1 ≠ (List.replicate ((256 : Int)).toNat (0 : UInt8)).take 63
                  · -- (nt ++ (List.replicate (64 - (nt.length : Int)).toNat (0 : UInt8))).drop 1 ≠ (List.replicate ((256 : Int)).toNat (0 : UInt8)).take 63
                    refine r_off (b' := true) 16 rfl (by kernel_rfl) 100 rfl (congrArg Value.bool (decide_eq_true h345)) rfl ?_
                    refine r_off (b' := true) 17 rfl (by kernel_rfl) 100 rfl (congrArg Value.bool (decide_eq_true h345)) rfl ?_
                    refine r_op 18 rfl (by kernel_rfl) (o_pick_t (u := (.bool true)) ((rfl : _ = _).trans (congrArg Value.bool (decide_eq_true h345))) rfl ?_)
                    refine r_op 19 rfl (by kernel_rfl) (o_move (v := (.bool true)) rfl ?_)
                    refine Rest.phaseA (fun w_ => Has E w_ []) 20 26 6 rfl (by decide) (by kernel_rfl) ?_
                    refine a_off (b' := true) 20 rfl (by kernel_rfl) 104 rfl rfl rfl ?_
                    refine a_off (b' := true) 21 rfl (by kernel_rfl) 104 rfl rfl rfl ?_
                    refine a_off (b' := true) 22 rfl (by kernel_rfl) 104 rfl rfl rfl ?_
                    refine a_off (b' := true) 23 rfl (by kernel_rfl) 104 rfl rfl rfl ?_
                    refine a_off (b' := true) 24 rfl (by kernel_rfl) 104 rfl rfl rfl ?_
                    refine a_off (b' := true) 25 rfl (by kernel_rfl) 104 rfl rfl rfl ?_
                    have hH346 : Has E { w329 with drawn := w329.drawn + 1 } [] := hH333.first 0 rfl
                    refine a_done (by kernel_rfl) hH346 ?_
                    refine r_off (b' := true) 26 rfl (by kernel_rfl) 104 rfl rfl rfl ?_
                    refine r_op 27 rfl (by kernel_rfl) (o_pick_t (u := (.bool true)) rfl rfl ?_)
                    refine Rest.done (by kernel_rfl) ?_
                    refine t_norm (hK332 _ _ ?_)
                    refine c_true rfl rfl ?_
                    refine wp_seq_k fun K347 hK347 => ?_
                    refine c_region ?_
                    refine s_op (o_move (v := (.pointer none)) rfl ?_)
                    refine s_op (o_pnil (p := none) Tryz.underlying25 rfl rfl ?_)
                    refine s_op (o_move (v := (.bool true)) rfl ?_)
                    refine s_on 115 rfl rfl (o_move (v := (.int .i64 ((mendR (Dv.mk (Pw.mk false false 0 0) la60 []) 3).1))) rfl ?_)
                    refine s_on 115 rfl rfl (o_eql (a := (mendR (Dv.mk (Pw.mk false false 0 0) la60 []) 3).1) (b := 9) rfl rfl ?_)
                    refine s_op (o_pick_t (u := (.bool (decide ((mendR (Dv.mk (Pw.mk false false 0 0) la60 []) 3).1 = 9)))) rfl rfl ?_)
                    refine s_op (o_assign (v := (.bool (decide ((mendR (Dv.mk (Pw.mk false false 0 0) la60 []) 3).1 = 9)))) rfl ?_)
                    refine s_nil ?_
                    refine t_norm (hK347 _ _ ?_)
                    refine wp_ret ?_
                    refine t_ret (t_ret (c_ret1 Tryz.results6  (v := (.bool (decide ((mendR (Dv.mk (Pw.mk false false 0 0) la60 []) 3).1 = 9)))) rfl ?_))
                    have hH348 : Has E { w329 with drawn := w329.drawn + 1 } [R] := (hH333.front 6 rfl).first 1 rfl
                    exact ⟨by first | rfl | (rw [decide_eq_true hS_]) | (rw [decide_eq_true hm9_]), hH348⟩
                  · -- not: (nt ++ (List.replicate (64 - (nt.length : Int)).toNat (0 : UInt8))).drop 1 ≠ (List.replicate ((256 : Int)).toNat (0 : UInt8)).take 63
                    refine r_on 16 rfl (by kernel_rfl) 100 rfl (congrArg Value.bool (decide_eq_false h345)) (o_move (v := (.bool ((readR bz51).1))) rfl ?_)
                    refine r_on 17 rfl (by kernel_rfl) 100 rfl (congrArg Value.bool (decide_eq_false h345)) (o_not rfl ?_)
                    refine r_op 18 rfl (by kernel_rfl) (o_pick_f (u := (.bool (!((readR bz51).1)))) ((rfl : _ = _).trans (congrArg Value.bool (decide_eq_false h345))) rfl ?_)
                    refine r_op 19 rfl (by kernel_rfl) (o_move (v := (.bool (!((readR bz51).1)))) rfl ?_)
                    refine Rest.phaseA (fun w_ => Has E w_ [[Hp.one b326 (.cells #[(.int .i64 ((readR bz51).2.1)), (.int .i64 ((readR bz51).2.2.1)), v320] 36 (0, 0))]]) 20 26 6 rfl (by decide) (by kernel_rfl) ?_
                    rcases Bool.eq_false_or_eq_true (!((readR bz51).1)) with h349 | h349
                    · -- !((readR bz51).1)
                      have h349_n : ((readR bz51).1) = false := by first | simpa using h349 | exact Bool.of_not_eq_true (fun g_ => by rw [g_] at h349; cases h349)
                      refine a_off (b' := true) 20 rfl (by kernel_rfl) 104 rfl (congrArg Value.bool h349) rfl ?_
                      refine a_off (b' := true) 21 rfl (by kernel_rfl) 104 rfl (congrArg Value.bool h349) rfl ?_
                      refine a_off (b' := true) 22 rfl (by kernel_rfl) 104 rfl (congrArg Value.bool h349) rfl ?_
                      refine a_off (b' := true) 23 rfl (by kernel_rfl) 104 rfl (congrArg Value.bool h349) rfl ?_
                      refine a_off (b' := true) 24 rfl (by kernel_rfl) 104 rfl (congrArg Value.bool h349) rfl ?_
                      refine a_off (b' := true) 25 rfl (by kernel_rfl) 104 rfl (congrArg Value.bool h349) rfl ?_
                      have hH350 : Has E { w329 with drawn := w329.drawn + 1 } [[Hp.one b326 (.cells #[(.int .i64 ((readR bz51).2.1)), (.int .i64 ((readR bz51).2.2.1)), v320] 36 (0, 0))]] := hH333.first 1 rfl
                      refine a_done (by kernel_rfl) hH350 ?_
                      refine r_off (b' := true) 26 rfl (by kernel_rfl) 104 rfl (congrArg Value.bool h349) rfl ?_
                      refine r_op 27 rfl (by kernel_rfl) (o_pick_t (u := (.bool true)) ((rfl : _ = _).trans (congrArg Value.bool h349)) rfl ?_)
                      refine Rest.done (by kernel_rfl) ?_
                      refine t_norm (hK332 _ _ ?_)
                      refine c_true rfl rfl ?_
                      refine wp_seq_k fun K351 hK351 => ?_
                      refine c_region ?_
                      refine s_op (o_move (v := (.pointer none)) rfl ?_)
                      refine s_op (o_pnil (p := none) Tryz.underlying25 rfl rfl ?_)
                      refine s_op (o_move (v := (.bool true)) rfl ?_)
                      refine s_on 115 rfl rfl (o_move (v := (.int .i64 ((mendR (Dv.mk (Pw.mk false false 0 0) la60 []) 3).1))) rfl ?_)
                      refine s_on 115 rfl rfl (o_eql (a := (mendR (Dv.mk (Pw.mk false false 0 0) la60 []) 3).1) (b := 9) rfl rfl ?_)
                      refine s_op (o_pick_t (u := (.bool (decide ((mendR (Dv.mk (Pw.mk false false 0 0) la60 []) 3).1 = 9)))) rfl rfl ?_)
                      refine s_op (o_assign (v := (.bool (decide ((mendR (Dv.mk (Pw.mk false false 0 0) la60 []) 3).1 = 9)))) rfl ?_)
                      refine s_nil ?_
                      refine t_norm (hK351 _ _ ?_)
                      refine wp_ret ?_
                      refine t_ret (t_ret (c_ret1 Tryz.results6  (v := (.bool (decide ((mendR (Dv.mk (Pw.mk false false 0 0) la60 []) 3).1 = 9)))) rfl ?_))
                      have hH352 : Has E { w329 with drawn := w329.drawn + 1 } [R] := (hH333.front 6 rfl).first 1 rfl
                      exact ⟨by first | rfl | (rw [decide_eq_true hS_]) | (rw [decide_eq_true hm9_]), hH352⟩
                    · -- not: !((readR bz51).1)
                      have h349_n : ((readR bz51).1) = true := by first | simpa using h349 | exact Bool.of_not_eq_false (fun g_ => by rw [g_] at h349; cases h349)
                      refine a_on 20 rfl (by kernel_rfl) 104 rfl (congrArg Value.bool h349) (fun w_ h_ => o_fieldAddr (k := 0) (fun _ => by kernel_rfl) rfl ⟨rfl, rfl⟩) ?_
                      refine a_on 21 rfl (by kernel_rfl) 104 rfl (congrArg Value.bool h349) (fun w_ h_ => o_load1 (v := (.int .i64 ((readR bz51).2.1))) Tryz.underlying3 rfl rfl h_ (seg_sub 0 rfl) (CellsAt.one rfl) ⟨rfl, rfl⟩) ?_
                      refine a_on 22 rfl (by kernel_rfl) 104 rfl (congrArg Value.bool h349) (fun w_ h_ => o_move (v := (S (nt ++ (List.replicate (64 - (nt.length : Int)).toNat (0 : UInt8))))) rfl ⟨rfl, rfl⟩) ?_
                      refine a_on 23 rfl (by kernel_rfl) 104 rfl (congrArg Value.bool h349) (fun w_ h_ => o_sidx Tryz.underlying9 rfl rfl (by omega) hx0 ⟨rfl, rfl⟩) ?_
                      refine a_on 24 rfl (by kernel_rfl) 104 rfl (congrArg Value.bool h349) (fun w_ h_ => o_conv Tryz.underlying5 Tryz.underlying3 rfl (w_u8 _) ⟨rfl, rfl⟩) ?_
                      refine a_on 25 rfl (by kernel_rfl) 104 rfl (congrArg Value.bool h349) (fun w_ h_ => o_sub (a := (x0.toNat : Int)) (b := 1) rfl rfl (w64 (by omega) (by omega)) ⟨rfl, rfl⟩) ?_
                      have hH353 : Has E { w329 with drawn := w329.drawn + 1 } [[Hp.one b326 (.cells #[(.int .i64 ((readR bz51).2.1)), (.int .i64 ((readR bz51).2.2.1)), v320] 36 (0, 0))]] := hH333.first 1 rfl
                      refine a_done (by kernel_rfl) hH353 ?_
                      refine r_on 26 rfl (by kernel_rfl) 104 rfl (congrArg Value.bool h349) (o_neq (a := (readR bz51).2.1) (b := (x0.toNat : Int) - 1) rfl rfl ?_)
                      refine r_op 27 rfl (by kernel_rfl) (o_pick_f (u := (.bool (decide ((readR bz51).2.1 ≠ (x0.toNat : Int) - 1)))) ((rfl : _ = _).trans (congrArg Value.bool h349)) rfl ?_)
                      refine Rest.done (by kernel_rfl) ?_
                      refine t_norm (hK332 _ _ ?_)
                      refine c_cond rfl (fun h354 => ?_) (fun h354 => ?_)
                      · -- (readR bz51).2.1 ≠ (x0.toNat : Int) - 1
                        refine wp_seq_k fun K355 hK355 => ?_
                        refine c_region ?_
                        refine s_op (o_move (v := (.pointer none)) rfl ?_)
                        refine s_op (o_pnil (p := none) Tryz.underlying25 rfl rfl ?_)
                        refine s_op (o_move (v := (.bool true)) rfl ?_)
                        refine s_on 115 rfl rfl (o_move (v := (.int .i64 ((mendR (Dv.mk (Pw.mk false false 0 0) la60 []) 3).1))) rfl ?_)
                        refine s_on 115 rfl rfl (o_eql (a := (mendR (Dv.mk (Pw.mk false false 0 0) la60 []) 3).1) (b := 9) rfl rfl ?_)
                        refine s_op (o_pick_t (u := (.bool (decide ((mendR (Dv.mk (Pw.mk false false 0 0) la60 []) 3).1 = 9)))) rfl rfl ?_)
                        refine s_op (o_assign (v := (.bool (decide ((mendR (Dv.mk (Pw.mk false false 0 0) la60 []) 3).1 = 9)))) rfl ?_)
                        refine s_nil ?_
                        refine t_norm (hK355 _ _ ?_)
                        refine wp_ret ?_
                        refine t_ret (t_ret (c_ret1 Tryz.results6  (v := (.bool (decide ((mendR (Dv.mk (Pw.mk false false 0 0) la60 []) 3).1 = 9)))) rfl ?_))
                        have hH356 : Has E { w329 with drawn := w329.drawn + 1 } [R] := (hH333.front 6 rfl).first 1 rfl
                        exact ⟨by first | rfl | (rw [decide_eq_true hS_]) | (rw [decide_eq_true hm9_]), hH356⟩
                      · -- not: (readR bz51).2.1 ≠ (x0.toNat : Int) - 1
                        exact absurd ⟨⟨⟨by omega, by omega⟩, (Classical.not_not.1 h345).trans (zer_take 256 63 (by decide))⟩, by rw [← hre1_]; simpa using h349, by rw [← hre1_]; exact Classical.not_not.1 h354⟩ hc143
            · -- not: nt ++ (List.replicate (64 - (nt.length : Int)).toNat (0 : UInt8)) ≠ (List.replicate ((256 : Int)).toNat (0 : UInt8)).take 64
              exact absurd ((Classical.not_not.1 h318).trans (zer_take 256 64 (by decide))) hc68
end Go.Q
namespace Go.Q
theorem arr_cells {H : Type} {enc : TypeId × Value → H} {P : Program} {w : World} {base : Nat} {spare : Nat → Bool} {held : Bool} {fuel n : Nat} {t e : TypeId} {k : IntKind} {cs : List Value} {l : List Int} {p : List MemPlace}
    (ht : P.underlying t = some (.array n e)) (he : P.underlying e = some (.int k)) (hc : P.cellsOf e = 1) (hl : l.length = n)
    (h : DataW.trod enc P w base spare held fuel t cs = some (.agg (l.map fun z => (DataW.lit (Lit.int k z) : DataW H)), p)) : ∀ (i : Nat) (z : Int), l[i]? = some z → cs[i]? = some (Value.int k z) := by
  intro i z hz
  obtain ⟨xs, m, _, hx, _, hn, hel⟩ := DataW.trod_array ht h
  simp only [Prod.mk.injEq, DataW.agg.injEq] at hx
  have hi : i < n := by rw [← hl]; exact (List.getElem?_eq_some_iff.1 hz).1
  have h1 := hel i hi
  rw [hc, Nat.mul_one, List.getElem?_eq_getElem (by omega)] at h1
  obtain ⟨r, e1, e2, _⟩ := DataW.trod_int he h1
  have e3 : (xs.map (·.1))[i]? = some (DataW.lit (Lit.int k z)) := by rw [← hx.1, List.getElem?_map, hz]; rfl
  rw [List.getElem?_map, List.getElem?_eq_getElem (by omega), Option.map_some] at e3
  rw [e2] at e3
  have e4 : r = z := by simpa using e3
  subst e4
  have e5 : (List.take 1 (List.drop i cs))[0]? = some (.int k r) := by rw [e1]; rfl
  rw [List.getElem?_take, if_pos (by omega), List.getElem?_drop] at e5
  simpa using e5
end Go.Q
namespace Go.Q
open Go.Proofs
set_option linter.unusedVariables false
set_option maxRecDepth 100000
attribute [local irreducible] wpList OK Code.wp
end Go.Q
