/-
  Parts of a walk: what functions of the program compute, each told by a theorem (Qvt9, QTw6, QDir, QPool, Qvw0, Qvw10, QCut, Qvw1, Qvw2, Qvw3, Qvw5, QvSh5, Qvw4, Qvw6, Qvw7, Qvt14, Qvw8, Qvw9, Qvp6, Qvp8, QvL7, QYD, QvRd).
-/
import Derived.Test.YtcjjknilhceeeaaGreatDoorB3
import Derived.Shelf.SlIterI.Nil
import Derived.OpenShut
set_option linter.unusedVariables false
set_option linter.unusedSimpArgs false
set_option linter.unnecessarySimpa false
namespace Go.Q
open Go.Proofs
set_option linter.unusedVariables false
set_option maxRecDepth 100000
attribute [local irreducible] wpList OK Code.wp
set_option maxHeartbeats 4000000 in
theorem tpage_on {E w : World} {R sg : List Hp} {pb db tb : Nat} {d : Dv} {n : Int} (hH : Has E w [sg, [Hp.one pb (.cells #[(.bool d.p.off), (.bool d.p.armed), (.int .i64 d.p.left), (.int .i64 d.p.uses)] 101 (0, 0))], [Hp.one tb (.cells #[(.pointer (some ⟨db, 0, none⟩)), (.int .i64 n)] 98 (0, 0))], R]) (hd : DevAt pb sg db d.la d.lo) (hlo : d.lo = []) (hon : d.p.off = false) (h64 : Full64 d.la) (h4 : d.la.length ≤ 4096) (hn : 1 ≤ n ∧ n ≤ 64) (hln : 5 + n * 4 ≤ d.la.length) (hg : CellsAt R 1 0 nibV) {x : Int} (hx : 0 ≤ x ∧ x < n) :
    Calls Tryz.prog 24 #[(.pointer (some ⟨tb, 0, none⟩)), (.int .i64 x)] w fun e w' => ∃ v hs, e = .returned (.tuple #[.agg #[.int .i64 (pgOf (pgB d.la (plc x)) x).1.1, .int .i64 (pgOf (pgB d.la (plc x)) x).1.2.1, v], .int .i64 (pgOf (pgB d.la (plc x)) x).2]) ∧ Own 70 2 v (pgOf (pgB d.la (plc x)) x).1.2.2.length ((pgOf (pgB d.la (plc x)) x).1.2.2.flatMap ceC) hs ∧ Has E w' [hs, sg, [Hp.one pb (.cells #[(.bool d.p.off), (.bool d.p.armed), (.int .i64 d.p.left), (.int .i64 d.p.uses)] 101 (0, 0))], [Hp.one tb (.cells #[(.pointer (some ⟨db, 0, none⟩)), (.int .i64 n)] 98 (0, 0))], R] := by
  have hBl_ := pgB_len h64 (x := plc x) (by unfold plc; omega) (by unfold plc; omega)
  refine c_enter (args := [(.pointer (some ⟨tb, 0, none⟩)), (.int .i64 x)]) Tryz.func24 rfl Tryz.ntmps24 (by simp) ?_
  refine wp_seq_k fun K1 hK1 => ?_
  refine c_region ?_
  refine s_op (o_alloc (cs := #[(.int .i64 0), (.int .i64 0), (.slice none 0 0)]) ti36 rfl hH fun b2 w3 hH4 => ?_)
  refine s_op (o_assign (v := (.int .i64 0)) rfl ?_)
  refine s_nil ?_
  refine t_norm (hK1 _ _ ?_)
  refine wp_seq_k fun K5 hK5 => ?_
  refine wp_block ?_
  refine wp_seq_k fun K6 hK6 => ?_
  refine c_region ?_
  refine s_op (o_move (v := (.pointer (some ⟨tb, 0, none⟩))) rfl ?_)
  refine s_op (o_pnil (p := some _) Tryz.underlying25 rfl rfl ?_)
  refine s_op (o_assign (v := (.bool false)) rfl ?_)
  refine s_nil ?_
  refine t_norm (hK6 _ _ ?_)
  refine c_false rfl rfl ?_
  refine wp_seq_k fun K7 hK7 => ?_
  refine c_region ?_
  refine s_op (o_move (v := (.int .i64 x)) rfl ?_)
  refine s_op (o_lss (a := x) (b := 0) rfl rfl ?_)
  refine s_op (o_move (v := (.bool (decide (x < 0)))) rfl ?_)
  by_cases h8 : x < 0
  · -- x < 0
    exfalso; omega
  · -- not: x < 0
    refine s_on 17 rfl (congrArg Value.bool (decide_eq_false h8)) (o_move (v := (.int .i64 x)) rfl ?_)
    refine s_on 17 rfl (congrArg Value.bool (decide_eq_false h8)) (o_move (v := (.pointer (some ⟨tb, 0, none⟩))) rfl ?_)
    refine s_on 17 rfl (congrArg Value.bool (decide_eq_false h8)) (o_nilCheck rfl ?_)
    refine s_on 17 rfl (congrArg Value.bool (decide_eq_false h8)) (o_fieldAddr (k := 1) (fun _ => by kernel_rfl) rfl ?_)
    refine s_on 17 rfl (congrArg Value.bool (decide_eq_false h8)) (o_load1 (v := (.int .i64 n)) Tryz.underlying3 rfl rfl hH4 (seg_sub 3 rfl) (CellsAt.one rfl) ?_)
    refine s_on 17 rfl (congrArg Value.bool (decide_eq_false h8)) (o_geq (a := x) (b := n) rfl rfl ?_)
    refine s_op (o_pick_f (u := (.bool (decide (n ≤ x)))) ((rfl : _ = _).trans (congrArg Value.bool (decide_eq_false h8))) rfl ?_)
    refine s_op (o_assign (v := (.bool (decide (n ≤ x)))) rfl ?_)
    refine s_nil ?_
    refine t_norm (hK7 _ _ ?_)
    refine c_cond rfl (fun h9 => ?_) (fun h9 => ?_)
    · -- n ≤ x
      exfalso; omega
    · -- not: n ≤ x
      refine wp_skip ?_
      refine b_norm ?_
      refine t_norm (hK5 _ _ ?_)
      refine wp_seq_k fun K10 hK10 => ?_
      refine c_region ?_
      refine s_op (o_move (v := (.pointer (some ⟨tb, 0, none⟩))) rfl ?_)
      refine s_op (o_move (v := (.int .i64 x)) rfl ?_)
      refine s_op (o_callf (vs := #[(.int .i64 x)]) ca64 rfl (args1 rfl) (place_c hH4.all (x := x) ⟨by omega, by omega⟩) ?_)
      rintro _ w13 ⟨rfl, hX11⟩
      refine ⟨_, rfl, ?_⟩
      have hH12 := hX11.of_all
      refine s_op (o_callf (vs := #[(.pointer (some ⟨tb, 0, none⟩)), (.int .i64 (plc x))]) ca63 rfl (args2 rfl rfl) (tget_on (d := d) (n := n) (((hH12.front 3 rfl).front 3 rfl).front 3 rfl).all3 hd hlo hon h64 (x := plc x) (by unfold plc; exact ⟨by omega, by omega⟩) h4) ?_)
      rintro _ w16 ⟨rfl, hX14⟩
      refine ⟨_, rfl, ?_⟩
      have hH15 : Has E w16 [sg, [Hp.one pb (.cells #[(.bool d.p.off), (.bool d.p.armed), (.int .i64 d.p.left), (.int .i64 d.p.uses)] 101 (0, 0))], [Hp.one tb (.cells #[(.pointer (some ⟨db, 0, none⟩)), (.int .i64 n)] 98 (0, 0))], [Hp.one b2 (.cells #[(.int .i64 0), (.int .i64 0), (.slice none 0 0)] 36 (0, 0))], R] := hX14.of_all3
      refine s_op (o_move (v := (.tuple #[(S (pgB d.la (plc x))), (.int .i64 (0 : Int))])) rfl ?_)
      refine s_op (o_extract (v := (S (pgB d.la (plc x)))) rfl rfl ?_)
      refine s_op (o_extract (v := (.int .i64 (0 : Int))) rfl rfl ?_)
      refine s_op (o_assign (v := (S (pgB d.la (plc x)))) rfl ?_)
      refine s_op (o_assign (v := (.int .i64 (0 : Int))) rfl ?_)
      refine s_nil ?_
      refine t_norm (hK10 _ _ ?_)
      refine wp_seq_k fun K17 hK17 => ?_
      refine wp_seq_k fun K18 hK18 => ?_
      refine c_region ?_
      refine s_op (o_move (v := (.int .i64 (0 : Int))) rfl ?_)
      refine s_op (o_neq (a := (0 : Int)) (b := 0) rfl rfl ?_)
      refine s_nil ?_
      refine t_norm (hK18 _ _ ?_)
      refine c_cond rfl (fun h19 => ?_) (fun h19 => ?_)
      · -- (0 : Int) ≠ 0
        exact absurd rfl h19
      · -- not: (0 : Int) ≠ 0
        refine wp_skip ?_
        refine t_norm (hK17 _ _ ?_)
        refine wp_seq_k fun K20 hK20 => ?_
        refine wp_seq_k fun K21 hK21 => ?_
        refine c_region ?_
        refine s_op (o_move (v := (S (pgB d.la (plc x)))) rfl ?_)
        refine s_op (o_callf (vs := #[(S (pgB d.la (plc x)))]) ca65 rfl (args1 rfl) (tblank_c hH15.all (pgB d.la (plc x)) (by omega)) ?_)
        rintro _ w24 ⟨rfl, hX22⟩
        refine ⟨_, rfl, ?_⟩
        have hH23 := hX22.of_all
        refine s_nil ?_
        refine t_norm (hK21 _ _ ?_)
        refine c_cond rfl (fun h25 => ?_) (fun h25 => ?_)
        · -- (pgB d.la (plc x)) = zer (pgB d.la (plc x)).length
          refine wp_seq_k fun K26 hK26 => ?_
          refine c_region ?_
          refine s_op (o_move (v := (.int .i64 x)) rfl ?_)
          refine s_op (o_sight (v := (.agg #[(.int .i64 x), (.int .i64 0), (.slice none 0 0)])) (fun _ => by kernel_rfl) ?_)
          refine s_eff (o_storeN (vs := [(.int .i64 x), (.int .i64 0), (.slice none 0 0)]) (c' := #[(.int .i64 x), (.int .i64 0), (.slice none 0 0)]) ti36 rfl rfl rfl rfl (by intro u hu; simp only [List.mem_cons, List.not_mem_nil, or_false] at hu; rcases hu with rfl | rfl | rfl <;> first | rfl) (by simp) (by kernel_rfl) (hH23.front 3 rfl) fun w27 hH28 => ?_)
          refine s_op (o_assign (v := (.int .i64 0)) rfl ?_)
          refine s_nil ?_
          refine t_norm (hK26 _ _ ?_)
          refine wp_ret ?_
          refine t_ret (c_retC2 Tryz.results24 rfl (run_loadVarN (cs := [(.int .i64 x), (.int .i64 0), (.slice none 0 0)]) Tryz.underlying36 rfl ti36 hH28 (seg_sub 0 rfl) (CellsAt.one rfl)) (x := (.int .i64 0)) rfl ?_)
          have hH29 : Has E w27 [[], sg, [Hp.one pb (.cells #[(.bool d.p.off), (.bool d.p.armed), (.int .i64 d.p.left), (.int .i64 d.p.uses)] 101 (0, 0))], [Hp.one tb (.cells #[(.pointer (some ⟨db, 0, none⟩)), (.int .i64 n)] 98 (0, 0))], R] := (Has.nil ((((hH28.front 4 rfl).front 4 rfl).front 4 rfl).front 4 rfl)).first 5 rfl
          have hE_ : (pgOf (pgB d.la (plc x)) x) = _ := pg_blank h25 hBl_
          exact ⟨_, _, by rw [hE_], by rw [hE_]; exact (Own.nil 70 2), hH29⟩
        · -- not: (pgB d.la (plc x)) = zer (pgB d.la (plc x)).length
          refine wp_skip ?_
          refine t_norm (hK20 _ _ ?_)
          refine wp_seq_k fun K30 hK30 => ?_
          refine c_region ?_
          refine s_op (o_move (v := (S (pgB d.la (plc x)))) rfl ?_)
          refine s_op (o_callf (vs := #[(S (pgB d.la (plc x)))]) ca66 rfl (args1 rfl) (pread_c (s := (pgB d.la (plc x))) hH23.all (hg.mono (seg_sub 4 rfl))) ?_)
          rintro _ w36 ⟨v31, s32, rfl, ho33, hX34⟩
          refine ⟨_, rfl, ?_⟩
          have hH35 : Has E w36 [s32, sg, [Hp.one pb (.cells #[(.bool d.p.off), (.bool d.p.armed), (.int .i64 d.p.left), (.int .i64 d.p.uses)] 101 (0, 0))], [Hp.one tb (.cells #[(.pointer (some ⟨db, 0, none⟩)), (.int .i64 n)] 98 (0, 0))], [Hp.one b2 (.cells #[(.int .i64 0), (.int .i64 0), (.slice none 0 0)] 36 (0, 0))], R] := hX34.of_all1
          refine s_op (o_move (v := (.tuple #[(.agg #[(.int .i64 ((readP (pgB d.la (plc x))).2.1)), (.int .i64 ((readP (pgB d.la (plc x))).2.2.1)), v31]), (.bool ((readP (pgB d.la (plc x))).1))])) rfl ?_)
          refine s_op (o_extract (v := (.agg #[(.int .i64 ((readP (pgB d.la (plc x))).2.1)), (.int .i64 ((readP (pgB d.la (plc x))).2.2.1)), v31])) rfl rfl ?_)
          refine s_op (o_extract (v := (.bool ((readP (pgB d.la (plc x))).1))) rfl rfl ?_)
          refine s_op (o_alloc (cs := #[(.int .i64 0), (.int .i64 0), (.slice none 0 0)]) ti36 rfl hH35 fun b37 w38 hH39 => ?_)
          refine s_eff (o_storeN (vs := [(.int .i64 ((readP (pgB d.la (plc x))).2.1)), (.int .i64 ((readP (pgB d.la (plc x))).2.2.1)), v31]) (c' := #[(.int .i64 ((readP (pgB d.la (plc x))).2.1)), (.int .i64 ((readP (pgB d.la (plc x))).2.2.1)), v31]) ti36 rfl rfl rfl rfl (by intro u hu; simp only [List.mem_cons, List.not_mem_nil, or_false] at hu; rcases hu with rfl | rfl | rfl <;> first | rfl | exact ho33.one) (by simp) (by kernel_rfl) (hH39.front 0 rfl) fun w40 hH41 => ?_)
          refine s_op (o_assign (v := (.bool ((readP (pgB d.la (plc x))).1))) rfl ?_)
          refine s_nil ?_
          refine t_norm (hK30 _ _ ?_)
          refine wp_seq_k fun K42 hK42 => ?_
          refine wp_seq_k fun K43 hK43 => ?_
          refine c_region ?_
          refine s_op (o_move (v := (.bool ((readP (pgB d.la (plc x))).1))) rfl ?_)
          refine s_op (o_not rfl ?_)
          refine s_op (o_move (v := (.bool (!((readP (pgB d.la (plc x))).1)))) rfl ?_)
          rcases Bool.eq_false_or_eq_true (!((readP (pgB d.la (plc x))).1)) with h44 | h44
          · -- !((readP (pgB d.la (plc x))).1)
            have h44_n : ((readP (pgB d.la (plc x))).1) = false := by simpa using h44
            refine s_off (b' := true) 48 rfl (congrArg Value.bool h44) rfl ?_
            refine s_off (b' := true) 48 rfl (congrArg Value.bool h44) rfl ?_
            refine s_off (b' := true) 48 rfl (congrArg Value.bool h44) rfl ?_
            refine s_off (b' := true) 48 rfl (congrArg Value.bool h44) rfl ?_
            refine s_op (o_pick_t (u := (.bool true)) ((rfl : _ = _).trans (congrArg Value.bool h44)) rfl ?_)
            refine s_nil ?_
            refine t_norm (hK43 _ _ ?_)
            refine c_true rfl rfl ?_
            refine wp_seq_k fun K45 hK45 => ?_
            refine c_region ?_
            refine s_op (o_sight (v := (.agg #[(.int .i64 0), (.int .i64 0), (.slice none 0 0)])) (fun _ => by kernel_rfl) ?_)
            refine s_eff (o_storeN (vs := [(.int .i64 0), (.int .i64 0), (.slice none 0 0)]) (c' := #[(.int .i64 0), (.int .i64 0), (.slice none 0 0)]) ti36 rfl rfl rfl rfl (by intro u hu; simp only [List.mem_cons, List.not_mem_nil, or_false] at hu; rcases hu with rfl | rfl | rfl <;> first | rfl) (by simp) (by kernel_rfl) (hH41.front 5 rfl) fun w46 hH47 => ?_)
            refine s_op (o_assign (v := (.int .i64 9)) rfl ?_)
            refine s_nil ?_
            refine t_norm (hK45 _ _ ?_)
            refine wp_ret ?_
            refine t_ret (c_retC2 Tryz.results24 rfl (run_loadVarN (cs := [(.int .i64 0), (.int .i64 0), (.slice none 0 0)]) Tryz.underlying36 rfl ti36 hH47 (seg_sub 0 rfl) (CellsAt.one rfl)) (x := (.int .i64 9)) rfl ?_)
            have hH48 : Has E w46 [[], sg, [Hp.one pb (.cells #[(.bool d.p.off), (.bool d.p.armed), (.int .i64 d.p.left), (.int .i64 d.p.uses)] 101 (0, 0))], [Hp.one tb (.cells #[(.pointer (some ⟨db, 0, none⟩)), (.int .i64 n)] 98 (0, 0))], R] := (Has.nil ((((hH47.front 6 rfl).front 6 rfl).front 6 rfl).front 6 rfl)).first 5 rfl
            have hE_ : (pgOf (pgB d.la (plc x)) x) = _ := pg_bad h25 hBl_ (fun k => by first | exact absurd k.1 (by simpa using h44))
            exact ⟨_, _, by rw [hE_], by rw [hE_]; exact (Own.nil 70 2), hH48⟩
          · -- not: !((readP (pgB d.la (plc x))).1)
            have h44_n : ((readP (pgB d.la (plc x))).1) = true := by simpa using h44
            refine s_on 48 rfl (congrArg Value.bool h44) (o_fieldAddr (k := 0) (fun _ => by kernel_rfl) rfl ?_)
            refine s_on 48 rfl (congrArg Value.bool h44) (o_load1 (v := (.int .i64 ((readP (pgB d.la (plc x))).2.1))) Tryz.underlying3 rfl rfl hH41 (seg_sub 0 rfl) (CellsAt.one rfl) ?_)
            refine s_on 48 rfl (congrArg Value.bool h44) (o_move (v := (.int .i64 x)) rfl ?_)
            refine s_on 48 rfl (congrArg Value.bool h44) (o_neq (a := (readP (pgB d.la (plc x))).2.1) (b := x) rfl rfl ?_)
            refine s_op (o_pick_f (u := (.bool (decide ((readP (pgB d.la (plc x))).2.1 ≠ x)))) ((rfl : _ = _).trans (congrArg Value.bool h44)) rfl ?_)
            refine s_nil ?_
            refine t_norm (hK43 _ _ ?_)
            refine c_cond rfl (fun h49 => ?_) (fun h49 => ?_)
            · -- (readP (pgB d.la (plc x))).2.1 ≠ x
              refine wp_seq_k fun K50 hK50 => ?_
              refine c_region ?_
              refine s_op (o_sight (v := (.agg #[(.int .i64 0), (.int .i64 0), (.slice none 0 0)])) (fun _ => by kernel_rfl) ?_)
              refine s_eff (o_storeN (vs := [(.int .i64 0), (.int .i64 0), (.slice none 0 0)]) (c' := #[(.int .i64 0), (.int .i64 0), (.slice none 0 0)]) ti36 rfl rfl rfl rfl (by intro u hu; simp only [List.mem_cons, List.not_mem_nil, or_false] at hu; rcases hu with rfl | rfl | rfl <;> first | rfl) (by simp) (by kernel_rfl) (hH41.front 5 rfl) fun w51 hH52 => ?_)
              refine s_op (o_assign (v := (.int .i64 9)) rfl ?_)
              refine s_nil ?_
              refine t_norm (hK50 _ _ ?_)
              refine wp_ret ?_
              refine t_ret (c_retC2 Tryz.results24 rfl (run_loadVarN (cs := [(.int .i64 0), (.int .i64 0), (.slice none 0 0)]) Tryz.underlying36 rfl ti36 hH52 (seg_sub 0 rfl) (CellsAt.one rfl)) (x := (.int .i64 9)) rfl ?_)
              have hH53 : Has E w51 [[], sg, [Hp.one pb (.cells #[(.bool d.p.off), (.bool d.p.armed), (.int .i64 d.p.left), (.int .i64 d.p.uses)] 101 (0, 0))], [Hp.one tb (.cells #[(.pointer (some ⟨db, 0, none⟩)), (.int .i64 n)] 98 (0, 0))], R] := (Has.nil ((((hH52.front 6 rfl).front 6 rfl).front 6 rfl).front 6 rfl)).first 5 rfl
              have hE_ : (pgOf (pgB d.la (plc x)) x) = _ := pg_bad h25 hBl_ (fun k => by first | exact absurd k.1 (by simpa using h44) | exact h49 k.2)
              exact ⟨_, _, by rw [hE_], by rw [hE_]; exact (Own.nil 70 2), hH53⟩
            · -- not: (readP (pgB d.la (plc x))).2.1 ≠ x
              refine wp_skip ?_
              refine t_norm (hK42 _ _ ?_)
              refine wp_seq_k fun K54 hK54 => ?_
              refine c_region ?_
              refine s_op (o_loadN (cs := [(.int .i64 ((readP (pgB d.la (plc x))).2.1)), (.int .i64 ((readP (pgB d.la (plc x))).2.2.1)), v31]) Tryz.underlying36 rfl ti36 rfl hH41 (seg_sub 0 rfl) (CellsAt.one rfl) ?_)
              refine s_eff (o_storeN (vs := [(.int .i64 ((readP (pgB d.la (plc x))).2.1)), (.int .i64 ((readP (pgB d.la (plc x))).2.2.1)), v31]) (c' := #[(.int .i64 ((readP (pgB d.la (plc x))).2.1)), (.int .i64 ((readP (pgB d.la (plc x))).2.2.1)), v31]) ti36 rfl rfl rfl rfl (by intro u hu; simp only [List.mem_cons, List.not_mem_nil, or_false] at hu; rcases hu with rfl | rfl | rfl <;> first | rfl | exact ho33.one) (by simp) (by kernel_rfl) (hH41.front 5 rfl) fun w55 hH56 => ?_)
              refine s_op (o_assign (v := (.int .i64 0)) rfl ?_)
              refine s_nil ?_
              refine t_norm (hK54 _ _ ?_)
              refine wp_ret ?_
              refine c_retC2 Tryz.results24 rfl (run_loadVarN (cs := [(.int .i64 ((readP (pgB d.la (plc x))).2.1)), (.int .i64 ((readP (pgB d.la (plc x))).2.2.1)), v31]) Tryz.underlying36 rfl ti36 hH56 (seg_sub 0 rfl) (CellsAt.one rfl)) (x := (.int .i64 0)) rfl ?_
              have hH57 : Has E w55 [s32, sg, [Hp.one pb (.cells #[(.bool d.p.off), (.bool d.p.armed), (.int .i64 d.p.left), (.int .i64 d.p.uses)] 101 (0, 0))], [Hp.one tb (.cells #[(.pointer (some ⟨db, 0, none⟩)), (.int .i64 n)] 98 (0, 0))], R] := (((((hH56.front 6 rfl).front 6 rfl).front 6 rfl).front 6 rfl).front 6 rfl).first 5 rfl
              have hE_ : (pgOf (pgB d.la (plc x)) x) = _ := pg_read h25 hBl_ (by simpa using h44) (Classical.not_not.1 h49)
              exact ⟨_, _, by rw [hE_], by rw [hE_]; exact ho33, hH57⟩
end Go.Q
namespace Go.Q
/-- pages are as they are told, and nothing is under way -/
structure TsS (d : Dv) (n : Int) (now : List Pg) (B : Nat → Bs) : Prop where
  told : Told now B n.toNat
  tw : Tw d.la n.toNat B
  lo : d.lo = []
  off : d.p.off = false
  arm : d.p.armed = false
  full : Full64 d.la
theorem st1_ne6 {d : Dv} {n : Int} {a : Pg} (h1 : d.p.off = false) (h2 : d.p.armed = false) : (st1 d n a).1 ≠ 6 ∧ (st1 d n a).2.p.armed = false := by
  unfold st1
  split
  · exact ⟨(show (1 : Int) ≠ 6 by decide), h2⟩
  · have h := runs_ne6 (stG a.1 (lpg a)) d h1 h2
    exact ⟨h.1, h.2.2⟩
theorem lpg_ne {a : Pg} (h : pageR a.1 a.2.1 a.2.2.2 = true) : lpg a ≠ [] := fun e => by
  have h1 : (lpg a).length = 256 := laidP_len h
  rw [e] at h1; cases h1
theorem TsS.ok {d : Dv} {n : Int} {now : List Pg} {B : Nat → Bs} {a : Pg} (h0 : 0 ≤ n) (h : TsS d n now B) (hr : pageR a.1 a.2.1 a.2.2.2 = true) (hn : ¬ n ≤ a.1) :
    0 ≤ a.1 ∧ (st1 d n a).1 = 0 ∧ TsS (st1 d n a).2 n (now.set a.1.toNat a) (updB B a.1.toNat (lpg a)) := by
  obtain ⟨m, rfl⟩ : ∃ m : Nat, n = (m : Int) := ⟨n.toNat, (Int.toNat_of_nonneg h0).symm⟩
  have hp := page_no hr
  have h6 := st1_ne6 (n := (m : Int)) (a := a) h.off h.arm
  have ht : Told now B m := by have h_ := h.told; rwa [Int.toNat_natCast] at h_
  have hw : Tw d.la m B := by have h_ := h.tw; rwa [Int.toNat_natCast] at h_
  have hq := st_spec (p := d.p) (a := a) hw h.off (lpg_ne hr) (by omega)
  rw [← Dv.eta0 h.lo] at hq
  rcases hq with ⟨q1, q4, q5, q6⟩ | ⟨q, _⟩
  · refine ⟨hp.1, q1, ⟨?_, by rw [Int.toNat_natCast]; exact q4, q5, q6, h6.2, full_st1 h.lo h.full⟩⟩
    rw [Int.toNat_natCast]
    exact ht.set (by omega) (by rw [show ((a.1.toNat : Nat) : Int) = a.1 by omega]; exact lpg_of (lpg_ne hr))
  · exact absurd q h6.1
theorem TsS.no {d : Dv} {n : Int} {a : Pg} (hr : pageR a.1 a.2.1 a.2.2.2 = false ∨ n ≤ a.1) : st1 d n a = (1, d) := by
  refine if_pos (hr.imp (fun h => laidP_no h) id)
theorem ts_start {p : Pw} {n : Int} {m : Nat} (h0 : 1 ≤ n) (hm : 5 + n * 4 ≤ (m : Int)) (ho : p.off = false) (ha : p.armed = false) : TsS ⟨p, List.replicate m blankS, []⟩ n (emptyS n.toNat) (fun _ => zer 256) :=
  ⟨told_start _, tw_start (by omega), rfl, ho, ha, fun s hs => by rw [(List.mem_replicate.1 hs).2]; rfl⟩
end Go.Q
namespace Go.Q
theorem Has.mid {E w : World} {a b c : List Hp} {ss : List (List Hp)} (H : Has E w ((a ++ (b ++ c)) :: ss)) : Has E w (b :: (a ++ c) :: ss) := by
  unfold Has at *
  refine Has0.perm H ?_
  simp only [List.flatten_cons, List.append_assoc]
  exact List.perm_append_comm_assoc b a _
theorem Has.mid' {E w : World} {a b c : List Hp} {ss : List (List Hp)} (H : Has E w (b :: (a ++ c) :: ss)) : Has E w ((a ++ (b ++ c)) :: ss) := by
  unfold Has at *
  refine Has0.perm H ?_
  simp only [List.flatten_cons, List.append_assoc]
  exact List.perm_append_comm_assoc a b _
def bpV (b : Nat) : Value := .pointer (some ⟨b, 0, none⟩)
/- An object's heaplets as one, and told apart. -/
theorem Has.cl2 {E w : World} {a b : List Hp} {ss : List (List Hp)} (H : Has E w (a :: b :: ss)) : Has E w ((a ++ b) :: ss) := by
  unfold Has at *; simpa only [List.flatten_cons, List.append_assoc] using H
theorem Has.op2 {E w : World} {a b : List Hp} {ss : List (List Hp)} (H : Has E w ((a ++ b) :: ss)) : Has E w (a :: b :: ss) := by
  unfold Has at *; simpa only [List.flatten_cons, List.append_assoc] using H
theorem Has.cl3 {E w : World} {a b c : List Hp} {ss : List (List Hp)} (H : Has E w (a :: b :: c :: ss)) : Has E w ((a ++ (b ++ c)) :: ss) := by
  unfold Has at *; simpa only [List.flatten_cons, List.append_assoc] using H
theorem Has.op3 {E w : World} {a b c : List Hp} {ss : List (List Hp)} (H : Has E w ((a ++ (b ++ c)) :: ss)) : Has E w (a :: b :: c :: ss) := by
  unfold Has at *; simpa only [List.flatten_cons, List.append_assoc] using H
structure DEnt (κ σ : Type) where
  key : κ
  b : Nat
  sg : List Hp
  val : σ
section
variable {κ σ : Type} [DecidableEq κ]
/-- Where each object is. -/
def wher (L : List (DEnt κ σ)) : List (κ × Nat) := L.map fun x => (x.key, x.b)
def what (L : List (DEnt κ σ)) : List (κ × σ) := L.map fun x => (x.key, x.val)
def DirAt (gk : κ → Value) (At : Nat → List Hp → σ → Prop) (mb : Nat) (sg : List Hp) (t : List (κ × σ)) : Prop :=
  ∃ es c L, sg = [Hp.one mb (.map es c)] ++ L.flatMap (·.sg) ∧ MapV gk bpV es c (wher L) ∧ (∀ x ∈ L, At x.b x.sg x.val) ∧ what L = t
def DirRd (gk : κ → Value) (Rd : List Hp → Nat → σ → Prop) (R : List Hp) (mb : Nat) (t : List (κ × σ)) : Prop :=
  ∃ es c L, Hp.one mb (.map es c) ∈ R ∧ MapV gk bpV es c (wher L) ∧ (∀ x ∈ L, Rd R x.b x.val) ∧ what L = t
/-- All but the object of one key, whose block is b. -/
def DirHole (gk : κ → Value) (At : Nat → List Hp → σ → Prop) (mb : Nat) (k : κ) (b : Nat) (sr : List Hp) (t : List (κ × σ)) : Prop :=
  ∃ es c A B v sx, sr = [Hp.one mb (.map es c)] ++ (A.flatMap (·.sg) ++ B.flatMap (·.sg)) ∧ MapV gk bpV es c (wher (A ++ ⟨k, b, sx, v⟩ :: B)) ∧ (∀ x ∈ A ++ B, At x.b x.sg x.val) ∧ what (A ++ ⟨k, b, sx, v⟩ :: B) = t
omit [DecidableEq κ] in
theorem DirRd.mono {gk : κ → Value} {Rd : List Hp → Nat → σ → Prop} {R R' : List Hp} {mb : Nat} {t : List (κ × σ)} (hm : ∀ {R R' : List Hp} {b : Nat} {v : σ}, Rd R b v → R ⊆ R' → Rd R' b v) (h : DirRd gk Rd R mb t) (hs : R ⊆ R') : DirRd gk Rd R' mb t := by
  obtain ⟨es, c, L, h1, h2, h3, h4⟩ := h
  exact ⟨es, c, L, hs h1, h2, fun x hx => hm (h3 x hx) hs, h4⟩
omit [DecidableEq κ] in
theorem DirAt.rd {gk : κ → Value} {At : Nat → List Hp → σ → Prop} {Rd : List Hp → Nat → σ → Prop} {mb : Nat} {sg : List Hp} {t : List (κ × σ)} (hm : ∀ {R R' : List Hp} {b : Nat} {v : σ}, Rd R b v → R ⊆ R' → Rd R' b v)
    (ha : ∀ {b : Nat} {sg : List Hp} {v : σ}, At b sg v → Rd sg b v) (h : DirAt gk At mb sg t) : DirRd gk Rd sg mb t := by
  obtain ⟨es, c, L, rfl, h2, h3, h4⟩ := h
  exact ⟨es, c, L, by simp, h2, fun x hx => hm (ha (h3 x hx)) fun y hy => List.mem_append_right _ (List.mem_flatMap.2 ⟨x, hx, hy⟩), h4⟩
omit [DecidableEq κ] in
theorem DirAt.new {gk : κ → Value} {At : Nat → List Hp → σ → Prop} {mb : Nat} : DirAt gk At mb [Hp.one mb (.map #[] 0)] ([] : List (κ × σ)) := ⟨#[], 0, [], by simp, MapV.nil, by simp, rfl⟩
theorem wher_get {k : κ} : ∀ {L : List (DEnt κ σ)} {b : Nat}, getB (wher L) k = some b → ∃ A v sx B, L = A ++ ⟨k, b, sx, v⟩ :: B ∧ getB (what L) k = some v
  | [], _, h => by simp [wher, getB] at h
  | x :: L, b, h => by
    rw [wher, List.map_cons, getB] at h
    by_cases e : k = x.key
    · rw [if_pos e] at h
      cases h
      refine ⟨[], x.val, x.sg, L, ?_, ?_⟩
      · rw [e]; rfl
      · rw [what, List.map_cons, getB, if_pos e]
    · rw [if_neg e] at h
      obtain ⟨A, v, sx, B, rfl, hv⟩ := wher_get (L := L) h
      refine ⟨x :: A, v, sx, B, rfl, ?_⟩
      rw [what, List.map_cons, getB, if_neg e]; exact hv
theorem wher_none {k : κ} : ∀ {L : List (DEnt κ σ)}, getB (wher L) k = none → getB (what L) k = none
  | [], _ => rfl
  | x :: L, h => by
    rw [wher, List.map_cons, getB] at h
    rw [what, List.map_cons, getB]
    split at h
    · cases h
    · rw [if_neg (by assumption)]; exact wher_none h
theorem put_mid {β : Type} {k : κ} {u v : β} : ∀ {A B : List (κ × β)}, k ∉ A.map (·.1) → putB (A ++ (k, u) :: B) k v = A ++ (k, v) :: B
  | [], B, _ => by simp [putB]
  | (a, x) :: A, B, h => by
    rw [List.map_cons, List.mem_cons, not_or] at h
    rw [List.cons_append, putB, if_neg h.1, put_mid h.2]; rfl
omit [DecidableEq κ] in
theorem what_keys (L : List (DEnt κ σ)) : (what L).map (·.1) = (wher L).map (·.1) := by simp [what, wher, Function.comp_def]
omit [DecidableEq κ] in
theorem mid_notin {β : Type} {k : κ} {u : β} {A B : List (κ × β)} (h : ((A ++ (k, u) :: B).map (·.1)).Nodup) : k ∉ A.map (·.1) := by
  rw [List.map_append, List.nodup_append] at h
  intro g
  exact h.2.2 k g k (by simp) rfl
omit [DecidableEq κ] in
theorem DirAt.nodup {gk : κ → Value} {At : Nat → List Hp → σ → Prop} {mb : Nat} {sg : List Hp} {t : List (κ × σ)} (h : DirAt gk At mb sg t) : (t.map (·.1)).Nodup := by
  obtain ⟨es, c, L, _, h2, _, rfl⟩ := h
  rw [what_keys]; exact h2.nodup
omit [DecidableEq κ] in
theorem DirRd.nodup {gk : κ → Value} {Rd : List Hp → Nat → σ → Prop} {R : List Hp} {mb : Nat} {t : List (κ × σ)} (h : DirRd gk Rd R mb t) : (t.map (·.1)).Nodup := by
  obtain ⟨es, c, L, _, h2, _, rfl⟩ := h
  rw [what_keys]; exact h2.nodup
/-- The object is put back, changed or not. -/
theorem DirHole.close {gk : κ → Value} {At : Nat → List Hp → σ → Prop} {mb b : Nat} {k : κ} {sx sr : List Hp} {t : List (κ × σ)} {v : σ} {E w : World} {ss : List (List Hp)} (h : DirHole gk At mb k b sr t) (hx : At b sx v)
    (H : Has E w (sx :: sr :: ss)) : ∃ sg, DirAt gk At mb sg (putB t k v) ∧ Has E w (sg :: ss) := by
  obtain ⟨es, c, A, B, v0, sx0, rfl, h2, h3, rfl⟩ := h
  have hn : ((wher (A ++ ⟨k, b, sx0, v0⟩ :: B)).map (·.1)).Nodup := h2.nodup
  have hw : wher (A ++ ⟨k, b, sx, v⟩ :: B) = wher (A ++ ⟨k, b, sx0, v0⟩ :: B) := by simp [wher]
  refine ⟨_, ⟨es, c, A ++ ⟨k, b, sx, v⟩ :: B, rfl, by rw [hw]; exact h2, ?_, ?_⟩, ?_⟩
  · intro x hx'
    rcases List.mem_append.1 hx' with g | g
    · exact h3 x (List.mem_append_left _ g)
    · rcases List.mem_cons.1 g with rfl | g
      · exact hx
      · exact h3 x (List.mem_append_right _ g)
  · have e1 : what (A ++ ⟨k, b, sx0, v0⟩ :: B) = what A ++ (k, v0) :: what B := by simp [what]
    have e2 : what (A ++ ⟨k, b, sx, v⟩ :: B) = what A ++ (k, v) :: what B := by simp [what]
    rw [e1, e2, put_mid]
    refine mid_notin (u := v0) (B := what B) ?_
    rw [← e1, what_keys]; exact hn
  · have H' : Has E w (sx :: (([Hp.one mb (.map es c)] ++ A.flatMap (·.sg)) ++ B.flatMap (·.sg)) :: ss) := by rw [List.append_assoc]; exact H
    have := H'.mid'
    rw [List.append_assoc] at this
    simpa [List.flatMap_append] using this
theorem DirHole.get {gk : κ → Value} {At : Nat → List Hp → σ → Prop} {mb b : Nat} {k : κ} {sr : List Hp} {t : List (κ × σ)} (h : DirHole gk At mb k b sr t) : (getB t k).isSome = true := by
  obtain ⟨es, c, A, B, v0, sx0, rfl, h2, h3, rfl⟩ := h
  rw [getB_mem]; simp [what]
section ops
variable {P : Program} {ρ : Operand → Value} {E w : World} {ss : List (List Hp)} {K : Value → World → Prop} {dst : Option Tmp} {T : TypeId} {pos : String} {after : Array Edge} {g : Option (Nat × Bool)} {gk : κ → Value} {At : Nat → List Hp → σ → Prop} {Rd : List Hp → Nat → σ → Prop}
/-- A lookup that takes the object out. -/
theorem o_dirOut {x y : Operand} {t kt et : TypeId} {mb : Nat} {l : List (κ × σ)} {by_ : Nat} {k : κ} {sg : List Hp} (ht : P.underlying t = some (.map kt et)) (hk : KeyAt P kt gk) (hz : TI P et (.pointer none) 1 by_)
    (hx : ρ x = .map (some mb)) (hy : ρ y = gk k) (hd : DirAt gk At mb sg l) (H : Has E w (sg :: ss))
    (hN : getB l k = none → K (.pointer none) w) (hS : ∀ b v sx sr, getB l k = some v → At b sx v → DirHole gk At mb k b sr l → Has E w (sx :: sr :: ss) → K (.pointer (some ⟨b, 0, none⟩)) w) :
    OK P ⟨dst, .lookup t x y false, T, pos, after, g⟩ ρ w K := by
  obtain ⟨es, c, L, rfl, h2, h3, rfl⟩ := hd
  refine o_lookupB (L := [Hp.one mb (.map es c)]) ht hk hz hx hy H (fun z hz => by rw [List.mem_singleton.1 hz]; simp) rfl h2 ?_
  simp only [Bool.false_eq_true, if_false]
  cases hg : getB (wher L) k with
  | none => exact hN (wher_none hg)
  | some b =>
    obtain ⟨A, v, sx, B, e, hv⟩ := wher_get hg
    subst e
    refine hS b v sx _ hv (h3 ⟨k, b, sx, v⟩ (by simp)) ⟨es, c, A, B, v, sx, rfl, h2, fun y hy => h3 y ?_, rfl⟩ ?_
    · rcases List.mem_append.1 hy with g | g
      · exact List.mem_append_left _ g
      · exact List.mem_append_right _ (List.mem_cons_of_mem _ g)
    · have H' : Has E w ((([Hp.one mb (.map es c)] ++ A.flatMap (·.sg)) ++ (sx ++ B.flatMap (·.sg))) :: ss) := by
        simpa [List.flatMap_append, List.append_assoc] using H
      have := H'.mid
      rw [List.append_assoc] at this
      exact this
/-- An object is put under a new key: it stays outside. -/
theorem o_dirPut {x y u : Operand} {t kt et : TypeId} {mb b : Nat} {l : List (κ × σ)} {k : κ} {sg sx : List Hp} {v : σ} (ht : P.underlying t = some (.map kt et)) (hk : KeyAt P kt gk)
    (hx : ρ x = .map (some mb)) (hy : ρ y = gk k) (hu : ρ u = .pointer (some ⟨b, 0, none⟩)) (hd : DirAt gk At mb sg l) (hn : getB l k = none) (hv : At b sx v) (H : Has E w (sg :: sx :: ss))
    (hK : ∀ sr w', DirHole gk At mb k b sr (putB l k v) → Has E w' (sx :: sr :: ss) → K undef w') : OK P ⟨dst, .mapUpdate t x y u, T, pos, after, g⟩ ρ w K := by
  obtain ⟨es, c, L, rfl, h2, h3, rfl⟩ := hd
  have hnk : k ∉ (what L).map (·.1) := fun g => by have := getB_mem.2 g; rw [hn] at this; cases this
  have hnw : getB (wher L) k = none := getB_none (by rw [← what_keys]; exact hnk)
  have hlw : ∀ {β : Type} {m : List (κ × β)} {z : β}, k ∉ m.map (·.1) → putB m k z = m ++ [(k, z)] := fun {β m z} hm => by
    induction m with
    | nil => rfl
    | cons p m ih =>
      obtain ⟨a, y⟩ := p
      rw [List.map_cons, List.mem_cons, not_or] at hm
      rw [putB, if_neg hm.1, ih hm.2]; rfl
  refine o_mapUpdateB (f := bpV) (v := b) ht hk hx hy hu (ss := L.flatMap (·.sg) :: sx :: ss) H.cut h2 fun es' c' w' he hH => ?_
  rw [hlw (by rw [← what_keys]; exact hnk)] at he
  refine hK ([Hp.one mb (.map es' c')] ++ (L.flatMap (·.sg) ++ ([] : List (DEnt κ σ)).flatMap (·.sg))) w' ⟨es', c', L, [], v, sx, rfl, by simpa [wher] using he, by simpa using h3, ?_⟩ ?_
  · rw [hlw hnk]; simp [what]
  · have h4 := hH.front 2 rfl
    have h5 : Has E w' (sx :: ([Hp.one mb (.map es' c')] ++ L.flatMap (·.sg)) :: ss) := by
      have h6 : Has E w' (sx :: [Hp.one mb (.map es' c')] :: L.flatMap (·.sg) :: ss) := h4
      unfold Has at *; simpa using h6
    simpa using h5
end ops
end
end Go.Q
namespace Go.Q
structure Frm where
  no : Int
  gsn : Int
  cells : List Cel
  dirty : Bool
  first : Int
  pins : Int
abbrev TwS := Dv × Int
structure PolS where
  tw : TwS
  room : Int
  fr : List (Int × Frm)
structure BxS where
  n : Int
def TwRd (_ : List Hp) (_ : Nat) (_ : TwS) : Prop := True
/-- pages that may be asked for -/
structure TwOk (t : TwS) : Prop where
  lo : t.1.lo = []
  off : t.1.p.off = false
  full : Full64 t.1.la
  le : t.1.la.length ≤ 4096
  n : 1 ≤ t.2 ∧ t.2 ≤ 64
  len : 5 + t.2 * 4 ≤ (t.1.la.length : Int)
def PO (t : TwS) (x : Int) : (Int × Int × List Cel) × Int := pgOf (pgB t.1.la (plc x)) x
def keysI {σ : Type} (t : List (Int × σ)) : List Int := (t.map (·.1)).mergeSort (fun x y => decide (x ≤ y))
theorem keysI_one {σ : Type} (k : Int) (f : σ) : keysI [(k, f)] = [k] := by unfold keysI; simp
def drC (p : Int × Int) : List Value := [iV p.1, iV p.2]
theorem drC_len (p : Int × Int) : (drC p).length = 2 := rfl
theorem one_drC (l : List (Int × Int)) : ∀ u ∈ l.flatMap drC, u.oneCell' = true := by
  intro u hu
  obtain ⟨p, _, hp⟩ := List.mem_flatMap.1 hu
  simp only [drC, List.mem_cons, List.not_mem_nil, or_false] at hp
  rcases hp with rfl | rfl <;> rfl
def pgF (f : Frm) : Pg := (f.no, f.gsn, .slice none 0 0, f.cells)
theorem pgOf_zer' {b : Bs} {k : Int} (h : b = zer 256) : pgOf b k = ((k, 0, []), 0) := if_pos h
/-- pages on a new device -/
def dm (m : Nat) : Dv := Dv.mk (Pw.mk false false (0 - ((m : Int) + 1)) (0 + ((m : Int) + 1))) (List.replicate m blankS) []
theorem dm_ok {n : Int} {m : Nat} (hn : 1 ≤ n ∧ n ≤ 64) (hm : 5 + n * 4 ≤ (m : Int)) (h4 : m ≤ 4096) : TwOk (dm m, n) :=
  ⟨rfl, rfl, fun s hs => by rw [(List.mem_replicate.1 hs).2]; rfl, by show (List.replicate m blankS).length ≤ 4096; rw [List.length_replicate]; exact h4, hn, by show 5 + n * 4 ≤ (((List.replicate m blankS).length : Nat) : Int); rw [List.length_replicate]; exact hm⟩
theorem dm_ts {n : Int} {m : Nat} (hn : 1 ≤ n) (hm : 5 + n * 4 ≤ (m : Int)) : TsS (dm m) n (emptyS n.toNat) (fun _ => zer 256) := ts_start hn hm rfl rfl
theorem dm_po {n x : Int} {m : Nat} (hn : 1 ≤ n) (hm : 5 + n * 4 ≤ (m : Int)) (h0 : 0 ≤ x) (hx : x < n) : PO (dm m, n) x = ((x, 0, []), 0) := by
  have h := (dm_ts hn hm).tw.pg x.toNat (by omega)
  rw [show ((x.toNat : Nat) : Int) = x by omega] at h
  unfold PO
  exact pgOf_zer' h
theorem args1c3 {ρ : Operand → Value} {a : Operand} {u x y z : Value} (h1 : ρ a = u) : #[] ++ #[a].map ρ ++ #[x, y, z] = #[u, x, y, z] := by simp [*]
theorem c_in {e : TypeId} {v : Value} {l : List Cel} {hs L : List Hp} {a b : Int} (h : Own e 2 v l.length (l.flatMap ceC) hs) (hs' : hs ⊆ L) : PgIn L ((a, b, v, l) : Pg) := (Own.sl h).mono hs'
theorem putB_me {κ β : Type} [DecidableEq κ] {k : κ} {e : β} : ∀ {t : List (κ × β)}, getB t k = some e → putB t k e = t
  | [], h => by simp [getB] at h
  | (a, x) :: t, h => by
    rw [getB] at h
    rw [putB]
    split
    · rename_i g; rw [if_pos g] at h; cases h; rw [g]
    · rename_i g; rw [if_neg g] at h; rw [putB_me h]
theorem putB_twice {κ β : Type} [DecidableEq κ] (k : κ) (u v : β) : ∀ l : List (κ × β), putB (putB l k u) k v = putB l k v
  | [] => by simp [putB]
  | (a, x) :: l => by
    rw [putB, putB]
    split
    · rw [putB, if_pos rfl]
    · rename_i g; rw [putB, if_neg g, putB_twice k u v l]
section ops
variable {P : Program} {ρ : Operand → Value} {E w : World} {ss : List (List Hp)} {K : Value → World → Prop} {dst : Option Tmp} {T : TypeId} {pos : String} {after : Array Edge} {g : Option (Nat × Bool)} {κ σ : Type} [DecidableEq κ] {gk : κ → Value} {Rd : List Hp → Nat → σ → Prop}
omit [DecidableEq κ] in
theorem o_dirLen {x : Operand} {t kt et : TypeId} {mb : Nat} {R : List Hp} {l : List (κ × σ)} (ht : P.underlying t = some (.map kt et)) (hx : ρ x = .map (some mb)) (hd : DirRd gk Rd R mb l) (H : Has E w ss) (hR : R ⊆ ss.flatten) (hK : K (.int .i64 l.length) w) :
    OK P ⟨dst, .call ⟨.builtin .len, #[x], #[t]⟩, T, pos, after, g⟩ ρ w K := by
  obtain ⟨es, c, L, h1, h2, h3, rfl⟩ := hd
  refine o_lenMap (L := [Hp.one mb (.map es c)]) ht hx H (fun z hz => by rw [List.mem_singleton.1 hz]; exact hR h1) rfl h2 ?_
  have e : (wher L).length = (what L).length := by simp [wher, what]
  rw [e]; exact hK
end ops
end Go.Q
namespace Go.Q
open Go.Proofs
set_option linter.unusedVariables false
set_option maxRecDepth 100000
attribute [local irreducible] wpList OK Code.wp
def TwAt (tb : Nat) (sg : List Hp) (v : TwS) : Prop := ∃ (pb db : Nat) (sd : List Hp), sg = sd ++ ([Hp.one pb (.cells #[(.bool v.1.p.off), (.bool v.1.p.armed), (.int .i64 v.1.p.left), (.int .i64 v.1.p.uses)] 101 (0, 0))] ++ [Hp.one tb (.cells #[(.pointer (some ⟨db, 0, none⟩)), (.int .i64 v.2)] 98 (0, 0))]) ∧ DevAt pb sd db v.1.la v.1.lo
theorem TwAt.rd {b : Nat} {sg : List Hp} {v : TwS} (_ : TwAt b sg v) : TwRd sg b v := trivial
theorem TwAt.mk {E w : World} {ss : List (List Hp)} {pb db tb : Nat} {sd : List Hp} {v : TwS} (hd : DevAt pb sd db v.1.la v.1.lo) (hH : Has E w (sd :: [Hp.one pb (.cells #[(.bool v.1.p.off), (.bool v.1.p.armed), (.int .i64 v.1.p.left), (.int .i64 v.1.p.uses)] 101 (0, 0))] :: [Hp.one tb (.cells #[(.pointer (some ⟨db, 0, none⟩)), (.int .i64 v.2)] 98 (0, 0))] :: ss)) : TwAt tb (sd ++ ([Hp.one pb (.cells #[(.bool v.1.p.off), (.bool v.1.p.armed), (.int .i64 v.1.p.left), (.int .i64 v.1.p.uses)] 101 (0, 0))] ++ [Hp.one tb (.cells #[(.pointer (some ⟨db, 0, none⟩)), (.int .i64 v.2)] 98 (0, 0))])) v ∧ Has E w ((sd ++ ([Hp.one pb (.cells #[(.bool v.1.p.off), (.bool v.1.p.armed), (.int .i64 v.1.p.left), (.int .i64 v.1.p.uses)] 101 (0, 0))] ++ [Hp.one tb (.cells #[(.pointer (some ⟨db, 0, none⟩)), (.int .i64 v.2)] 98 (0, 0))])) :: ss) := ⟨⟨pb, db, sd, rfl, hd⟩, hH.cl3⟩
theorem tpw_on {E w : World} {R sg : List Hp} {tb : Nat} {v : TwS} (hH : Has E w [sg, R]) (ht : TwAt tb sg v) (hok : TwOk v) (hg : CellsAt R 1 0 nibV) {x : Int} (hx : 0 ≤ x ∧ x < v.2) :
    Calls Tryz.prog 24 #[.pointer (some ⟨tb, 0, none⟩), .int .i64 x] w fun e w' => ∃ u hs, e = .returned (.tuple #[.agg #[.int .i64 (PO v x).1.1, .int .i64 (PO v x).1.2.1, u], .int .i64 (PO v x).2]) ∧ Own 70 2 u (PO v x).1.2.2.length ((PO v x).1.2.2.flatMap ceC) hs ∧ Has E w' [hs, sg, R] := by
  obtain ⟨pb, db, sd, rfl, hd⟩ := ht
  refine (tpage_on hH.op3 hd hok.lo hok.off hok.full hok.le hok.n hok.len hg hx).mono fun e w' ⟨u, hs, h1, h2, h3⟩ => ⟨u, hs, h1, h2, ?_⟩
  have h4 := h3.front 1 rfl
  unfold Has at *; simpa only [List.flatten_cons, List.append_assoc] using h3
theorem tsw_c {E w : World} {R sg : List Hp} {tb : Nat} {v : TwS} (hH : Has E w [sg, R]) (ht : TwAt tb sg v) (hok : TwOk v) {k : Nat} (hf : Few v.1.p k) (hk : k ≤ 800000) (hg : CellsAt R 1 0 nibV) {u : Value} {a : Pg} (hv : Sl R 3 u [a].length ([a].flatMap pgC)) (hin : PgIn R a) :
    Calls Tryz.prog 18 #[.pointer (some ⟨tb, 0, none⟩), u] w fun e w' => ∃ sg', e = .returned (.int .i64 (st1 v.1 v.2 a).1) ∧ TwAt tb sg' ((st1 v.1 v.2 a).2, v.2) ∧ Has E w' [sg', R] := by
  obtain ⟨pb, db, sd, rfl, hd⟩ := ht
  exact (tstore1_c hH.op3 hd hf hk hok.lo hok.le hg hv hin).mono fun e w' ⟨sg', h1, h2, h3⟩ => ⟨_, h1, ⟨pb, db, sg', rfl, h2⟩, h3.cl3⟩
def FrmAt (b : Nat) (sg : List Hp) (v : Frm) : Prop := ∃ (x2 : Value) (h2 : List Hp), sg = ([Hp.one b (.cells #[(.int .i64 v.no), (.int .i64 v.gsn), x2, (.bool v.dirty), (.int .i64 v.first), (.int .i64 v.pins)] 126 (0, 0))] ++ h2) ∧ (Own 70 2 x2 v.cells.length (v.cells.flatMap ceC) h2)
def FrmRd (R : List Hp) (b : Nat) (v : Frm) : Prop := ∃ (x2 : Value), CellsAt R b 0 [(.int .i64 v.no), (.int .i64 v.gsn), x2, (.bool v.dirty), (.int .i64 v.first), (.int .i64 v.pins)] ∧ (Sl R 2 x2 v.cells.length (v.cells.flatMap ceC))
theorem FrmAt.mk {b : Nat} {v : Frm} {x2 : Value} {h2 : List Hp} (f2 : Own 70 2 x2 v.cells.length (v.cells.flatMap ceC) h2) : FrmAt b (([Hp.one b (.cells #[(.int .i64 v.no), (.int .i64 v.gsn), x2, (.bool v.dirty), (.int .i64 v.first), (.int .i64 v.pins)] 126 (0, 0))] ++ h2)) v := ⟨_, _, rfl, f2⟩
theorem FrmRd.mk {R : List Hp} {b : Nat} {v : Frm} {x2 : Value} (hc : CellsAt R b 0 [(.int .i64 v.no), (.int .i64 v.gsn), x2, (.bool v.dirty), (.int .i64 v.first), (.int .i64 v.pins)]) (f2 : Sl R 2 x2 v.cells.length (v.cells.flatMap ceC)) : FrmRd R b v := ⟨_, hc, f2⟩
theorem FrmRd.mono {R R' : List Hp} {b : Nat} {v : Frm} (h : FrmRd R b v) (hs : R ⊆ R') : FrmRd R' b v := by
  obtain ⟨x2, hc, f2⟩ := h
  exact FrmRd.mk (hc.mono hs) (f2.mono hs)
theorem FrmAt.rd {b : Nat} {sg : List Hp} {v : Frm} (h : FrmAt b sg v) : FrmRd sg b v := by
  obtain ⟨x2, h2, rfl, f2⟩ := h
  exact FrmRd.mk ((CellsAt.one rfl).mono (fun _ g_ => List.mem_append_left _ g_)) (f2.sl.mono (fun _ g_ => List.mem_append_right _ (g_)))
def PolAt (b : Nat) (sg : List Hp) (v : PolS) : Prop := ∃ (x0 : Nat) (x2 : Nat) (h0 : List Hp) (h2 : List Hp), sg = ([Hp.one b (.cells #[(.pointer (some ⟨x0, 0, none⟩)), (.int .i64 v.room), (.map (some x2))] 81 (0, 0))] ++ (h0 ++ h2)) ∧ (TwAt x0 h0 v.tw) ∧ (DirAt iV FrmAt x2 h2 v.fr)
def PolRd (R : List Hp) (b : Nat) (v : PolS) : Prop := ∃ (x0 : Nat) (x2 : Nat), CellsAt R b 0 [(.pointer (some ⟨x0, 0, none⟩)), (.int .i64 v.room), (.map (some x2))] ∧ (TwRd R x0 v.tw) ∧ (DirRd iV FrmRd R x2 v.fr)
theorem PolAt.mk {b : Nat} {v : PolS} {x0 : Nat} {x2 : Nat} {h0 : List Hp} {h2 : List Hp} (f0 : TwAt x0 h0 v.tw) (f2 : DirAt iV FrmAt x2 h2 v.fr) : PolAt b (([Hp.one b (.cells #[(.pointer (some ⟨x0, 0, none⟩)), (.int .i64 v.room), (.map (some x2))] 81 (0, 0))] ++ (h0 ++ h2))) v := ⟨_, _, _, _, rfl, f0, f2⟩
theorem PolRd.mk {R : List Hp} {b : Nat} {v : PolS} {x0 : Nat} {x2 : Nat} (hc : CellsAt R b 0 [(.pointer (some ⟨x0, 0, none⟩)), (.int .i64 v.room), (.map (some x2))]) (f0 : TwRd R x0 v.tw) (f2 : DirRd iV FrmRd R x2 v.fr) : PolRd R b v := ⟨_, _, hc, f0, f2⟩
theorem PolRd.mono {R R' : List Hp} {b : Nat} {v : PolS} (h : PolRd R b v) (hs : R ⊆ R') : PolRd R' b v := by
  obtain ⟨x0, x2, hc, f0, f2⟩ := h
  exact PolRd.mk (hc.mono hs) trivial (DirRd.mono (Rd := FrmRd) FrmRd.mono f2 hs)
theorem PolAt.rd {b : Nat} {sg : List Hp} {v : PolS} (h : PolAt b sg v) : PolRd sg b v := by
  obtain ⟨x0, x2, h0, h2, rfl, f0, f2⟩ := h
  exact PolRd.mk ((CellsAt.one rfl).mono (fun _ g_ => List.mem_append_left _ g_)) trivial (DirRd.mono (Rd := FrmRd) FrmRd.mono (DirAt.rd (Rd := FrmRd) FrmRd.mono FrmAt.rd f2) (fun _ g_ => List.mem_append_right _ (List.mem_append_right _ (g_))))
def BxAt (b : Nat) (sg : List Hp) (v : BxS) : Prop := sg = [Hp.one b (.cells #[(.int .i64 v.n)] 3 (0, 0))]
def BxRd (R : List Hp) (b : Nat) (v : BxS) : Prop := CellsAt R b 0 [(.int .i64 v.n)]
theorem BxAt.mk {b : Nat} {v : BxS} : BxAt b ([Hp.one b (.cells #[(.int .i64 v.n)] 3 (0, 0))]) v := rfl
theorem BxRd.mk {R : List Hp} {b : Nat} {v : BxS} (hc : CellsAt R b 0 [(.int .i64 v.n)]) : BxRd R b v := hc
theorem BxRd.mono {R R' : List Hp} {b : Nat} {v : BxS} (h : BxRd R b v) (hs : R ⊆ R') : BxRd R' b v := by
  exact CellsAt.mono h hs
theorem BxAt.rd {b : Nat} {sg : List Hp} {v : BxS} (h : BxAt b sg v) : BxRd sg b v := by
  rw [show sg = _ from h]; exact CellsAt.one rfl
end Go.Q
namespace Go.Q
open Go.Proofs
set_option linter.unusedVariables false
set_option maxRecDepth 100000
attribute [local irreducible] wpList OK Code.wp
set_option maxHeartbeats 4000000 in
theorem peach_nil {E w : World} {R : List Hp} (hH : Has E w [R]) (u z : Value) :
    Calls Tryz.prog 79 #[(.pointer none), u, z] w fun e w' => e = .returned (.int .i64 1) ∧ Has E w' [R] := by
  refine c_enter (args := [(.pointer none), u, z]) Tryz.func79 rfl Tryz.ntmps79 (by simp) ?_
  refine wp_seq_k fun K1 hK1 => ?_
  refine c_region ?_
  refine s_op (o_assign (v := (.int .i64 0)) rfl ?_)
  refine s_nil ?_
  refine t_norm (hK1 _ _ ?_)
  refine wp_seq_k fun K2 hK2 => ?_
  refine wp_seq_k fun K3 hK3 => ?_
  refine c_region ?_
  refine s_op (o_move (v := (.pointer none)) rfl ?_)
  refine s_op (o_pnil (p := none) Tryz.underlying65 rfl rfl ?_)
  refine s_nil ?_
  refine t_norm (hK3 _ _ ?_)
  refine c_true rfl rfl ?_
  refine wp_seq_k fun K4 hK4 => ?_
  refine c_region ?_
  refine s_op (o_assign (v := (.int .i64 1)) rfl ?_)
  refine s_nil ?_
  refine t_norm (hK4 _ _ ?_)
  refine wp_ret ?_
  refine t_ret (c_ret1 Tryz.results79  (v := (.int .i64 1)) rfl ?_)
  exact ⟨rfl, hH⟩
set_option maxHeartbeats 4000000 in
theorem pheld_nil {E w : World} {R : List Hp} (hH : Has E w [R]) :
    Calls Tryz.prog 46 #[(.pointer none)] w fun e w' => e = .returned (.slice none 0 0) ∧ Has E w' [R] := by
  refine c_enter (args := [(.pointer none)]) Tryz.func46 rfl Tryz.ntmps46 (by simp) ?_
  refine wp_seq_k fun K1 hK1 => ?_
  refine c_region ?_
  refine s_op (o_assign (v := (.slice none 0 0)) rfl ?_)
  refine s_nil ?_
  refine t_norm (hK1 _ _ ?_)
  refine wp_seq_k fun K2 hK2 => ?_
  refine wp_seq_k fun K3 hK3 => ?_
  refine c_region ?_
  refine s_op (o_move (v := (.pointer none)) rfl ?_)
  refine s_op (o_pnil (p := none) Tryz.underlying65 rfl rfl ?_)
  refine s_nil ?_
  refine t_norm (hK3 _ _ ?_)
  refine c_true rfl rfl ?_
  refine wp_seq_k fun K4 hK4 => ?_
  refine c_region ?_
  refine s_op (o_assign (v := (.slice none 0 0)) rfl ?_)
  refine s_nil ?_
  refine t_norm (hK4 _ _ ?_)
  refine wp_ret ?_
  refine t_ret (c_ret1 Tryz.results46  (v := (.slice none 0 0)) rfl ?_)
  exact ⟨rfl, hH⟩
set_option maxHeartbeats 4000000 in
theorem plen_nil {E w : World} {R : List Hp} (hH : Has E w [R]) :
    Calls Tryz.prog 47 #[(.pointer none)] w fun e w' => e = .returned (.int .i64 0) ∧ Has E w' [R] := by
  refine c_enter (args := [(.pointer none)]) Tryz.func47 rfl Tryz.ntmps47 (by simp) ?_
  refine wp_seq_k fun K1 hK1 => ?_
  refine c_region ?_
  refine s_op (o_assign (v := (.int .i64 0)) rfl ?_)
  refine s_nil ?_
  refine t_norm (hK1 _ _ ?_)
  refine wp_seq_k fun K2 hK2 => ?_
  refine wp_seq_k fun K3 hK3 => ?_
  refine c_region ?_
  refine s_op (o_move (v := (.pointer none)) rfl ?_)
  refine s_op (o_pnil (p := none) Tryz.underlying65 rfl rfl ?_)
  refine s_nil ?_
  refine t_norm (hK3 _ _ ?_)
  refine c_true rfl rfl ?_
  refine wp_seq_k fun K4 hK4 => ?_
  refine c_region ?_
  refine s_op (o_assign (v := (.int .i64 0)) rfl ?_)
  refine s_nil ?_
  refine t_norm (hK4 _ _ ?_)
  refine wp_ret ?_
  refine t_ret (c_ret1 Tryz.results47  (v := (.int .i64 0)) rfl ?_)
  exact ⟨rfl, hH⟩
set_option maxHeartbeats 4000000 in
theorem pdirty_nil {E w : World} {R : List Hp} (hH : Has E w [R]) :
    Calls Tryz.prog 45 #[(.pointer none)] w fun e w' => e = .returned (.slice none 0 0) ∧ Has E w' [R] := by
  refine c_enter (args := [(.pointer none)]) Tryz.func45 rfl Tryz.ntmps45 (by simp) ?_
  refine wp_seq_k fun K1 hK1 => ?_
  refine c_region ?_
  refine s_op (o_assign (v := (.slice none 0 0)) rfl ?_)
  refine s_nil ?_
  refine t_norm (hK1 _ _ ?_)
  refine wp_seq_k fun K2 hK2 => ?_
  refine c_region ?_
  refine s_op (o_assign (v := (.slice none 0 0)) rfl ?_)
  refine s_nil ?_
  refine t_norm (hK2 _ _ ?_)
  refine wp_seq_k fun K3 hK3 => ?_
  refine wp_seq_k fun K4 hK4 => ?_
  refine c_region ?_
  refine s_op (o_move (v := (.pointer none)) rfl ?_)
  refine s_op (o_callf (vs := #[(.pointer none)]) ca46 rfl (args1 rfl) (pheld_nil hH.all) ?_)
  rintro _ w7 ⟨rfl, hX5⟩
  refine ⟨_, rfl, ?_⟩
  have hH6 := hX5.of_all
  refine s_op (o_lenS Tryz.underlying40 rfl (sl_nil (L := []) 1) ?_)
  refine s_op (o_move (v := (.int .i64 0)) rfl ?_)
  refine s_nil ?_
  refine t_norm (hK4 _ _ ?_)
  refine wp_block ?_
  refine u_loop 2 (u_round ?_)
  refine wp_seq_k fun K8 hK8 => ?_
  refine c_region ?_
  refine s_op (o_lss (a := 0) (b := ((0 : Nat) : Int)) rfl rfl ?_)
  refine s_nil ?_
  refine t_norm (hK8 _ _ ?_)
  refine wp_seq_k fun K9 hK9 => ?_
  refine c_false rfl rfl ?_
  refine wp_exit ?_
  refine t_exit (t_exit (x_in (?_)))
  refine t_norm (hK3 _ _ ?_)
  refine wp_seq_k fun K10 hK10 => ?_
  refine c_region ?_
  refine s_op (o_move (v := (.slice none 0 0)) rfl ?_)
  refine s_op (o_assign (v := (.slice none 0 0)) rfl ?_)
  refine s_nil ?_
  refine t_norm (hK10 _ _ ?_)
  refine wp_ret ?_
  refine c_ret1 Tryz.results45  (v := (.slice none 0 0)) rfl ?_
  exact ⟨rfl, hH6⟩
set_option maxHeartbeats 4000000 in
theorem poldest_nil {E w : World} {R : List Hp} (hH : Has E w [R]) :
    Calls Tryz.prog 41 #[(.pointer none)] w fun e w' => e = .returned (.tuple #[.int .i64 0, .bool false]) ∧ Has E w' [R] := by
  refine c_enter (args := [(.pointer none)]) Tryz.func41 rfl Tryz.ntmps41 (by simp) ?_
  refine wp_seq_k fun K1 hK1 => ?_
  refine c_region ?_
  refine s_op (o_assign (v := (.int .i64 0)) rfl ?_)
  refine s_op (o_assign (v := (.bool false)) rfl ?_)
  refine s_nil ?_
  refine t_norm (hK1 _ _ ?_)
  refine wp_seq_k fun K2 hK2 => ?_
  refine c_region ?_
  refine s_op (o_move (v := (.pointer none)) rfl ?_)
  refine s_op (o_callf (vs := #[(.pointer none)]) ca45 rfl (args1 rfl) (pdirty_nil hH.all) ?_)
  rintro _ w5 ⟨rfl, hX3⟩
  refine ⟨_, rfl, ?_⟩
  have hH4 := hX3.of_all
  refine s_op (o_assign (v := (.slice none 0 0)) rfl ?_)
  refine s_nil ?_
  refine t_norm (hK2 _ _ ?_)
  refine wp_seq_k fun K6 hK6 => ?_
  refine wp_seq_k fun K7 hK7 => ?_
  refine c_region ?_
  refine s_op (o_move (v := (.slice none 0 0)) rfl ?_)
  refine s_op (o_lenS Tryz.underlying86 rfl (sl_nil (L := []) 1) ?_)
  refine s_op (o_eql (a := ((0 : Nat) : Int)) (b := 0) rfl rfl ?_)
  refine s_nil ?_
  refine t_norm (hK7 _ _ ?_)
  refine c_true rfl rfl ?_
  refine wp_seq_k fun K8 hK8 => ?_
  refine c_region ?_
  refine s_op (o_assign (v := (.int .i64 0)) rfl ?_)
  refine s_op (o_assign (v := (.bool false)) rfl ?_)
  refine s_nil ?_
  refine t_norm (hK8 _ _ ?_)
  refine wp_ret ?_
  refine t_ret (c_ret2 Tryz.results41  (v := (.int .i64 0)) rfl (x := (.bool false)) rfl ?_)
  exact ⟨rfl, hH4⟩
set_option maxHeartbeats 4000000 in
theorem pget_nil {E w : World} {R : List Hp} (hH : Has E w [R]) (x : Int) :
    Calls Tryz.prog 36 #[(.pointer none), (.int .i64 x)] w fun e w' => e = .returned (.tuple #[.agg #[.int .i64 0, .int .i64 0, .slice none 0 0], .int .i64 1]) ∧ Has E w' [R] := by
  refine c_enter (args := [(.pointer none), (.int .i64 x)]) Tryz.func36 rfl Tryz.ntmps36 (by simp) ?_
  refine wp_seq_k fun K1 hK1 => ?_
  refine c_region ?_
  refine s_op (o_alloc (cs := #[(.int .i64 0), (.int .i64 0), (.slice none 0 0)]) ti36 rfl hH fun b2 w3 hH4 => ?_)
  refine s_op (o_assign (v := (.int .i64 0)) rfl ?_)
  refine s_nil ?_
  refine t_norm (hK1 _ _ ?_)
  refine wp_seq_k fun K5 hK5 => ?_
  refine wp_seq_k fun K6 hK6 => ?_
  refine c_region ?_
  refine s_op (o_move (v := (.pointer none)) rfl ?_)
  refine s_op (o_pnil (p := none) Tryz.underlying65 rfl rfl ?_)
  refine s_nil ?_
  refine t_norm (hK6 _ _ ?_)
  refine c_true rfl rfl ?_
  refine wp_seq_k fun K7 hK7 => ?_
  refine c_region ?_
  refine s_op (o_sight (v := (.agg #[(.int .i64 0), (.int .i64 0), (.slice none 0 0)])) (fun _ => by kernel_rfl) ?_)
  refine s_eff (o_storeN (vs := [(.int .i64 0), (.int .i64 0), (.slice none 0 0)]) (c' := #[(.int .i64 0), (.int .i64 0), (.slice none 0 0)]) ti36 rfl rfl rfl rfl (by intro u hu; simp only [List.mem_cons, List.not_mem_nil, or_false] at hu; rcases hu with rfl | rfl | rfl <;> first | rfl) (by simp) (by kernel_rfl) (hH4.front 0 rfl) fun w8 hH9 => ?_)
  refine s_op (o_assign (v := (.int .i64 1)) rfl ?_)
  refine s_nil ?_
  refine t_norm (hK7 _ _ ?_)
  refine wp_ret ?_
  refine t_ret (c_retC2 Tryz.results36 rfl (run_loadVarN (cs := [(.int .i64 0), (.int .i64 0), (.slice none 0 0)]) Tryz.underlying36 rfl ti36 hH9 (seg_sub 0 rfl) (CellsAt.one rfl)) (x := (.int .i64 1)) rfl ?_)
  have hH10 : Has E w8 [R] := (hH9.front 1 rfl).first 1 rfl
  exact ⟨rfl, hH10⟩
set_option maxHeartbeats 4000000 in
theorem pchange_nil {E w : World} {R : List Hp}  {no : Int} {gsn : Int} {v_l : Value} {l : List Cel} {g : Int}  (hH : Has E w [R]) (h_l : Sl R 2 v_l l.length (l.flatMap ceC)) :
    Calls Tryz.prog 37 #[(.pointer none), (.agg #[(.int .i64 no), (.int .i64 gsn), v_l]), (.int .i64 g)] w fun e w' => e = .returned (.int .i64 1) ∧ Has E w' [R] := by
  refine c_enter (args := [(.pointer none), (.agg #[(.int .i64 no), (.int .i64 gsn), v_l]), (.int .i64 g)]) Tryz.func37 rfl Tryz.ntmps37 (by simp) ?_
  refine wp_seq_k fun K1 hK1 => ?_
  refine c_region ?_
  refine s_op (o_box (cs := #[(.int .i64 no), (.int .i64 gsn), v_l]) rfl rfl hH fun b2 w3 hH4 => ?_)
  refine s_op (o_assign (v := (.int .i64 0)) rfl ?_)
  refine s_nil ?_
  refine t_norm (hK1 _ _ ?_)
  refine wp_seq_k fun K5 hK5 => ?_
  refine wp_seq_k fun K6 hK6 => ?_
  refine c_region ?_
  refine s_op (o_move (v := (.pointer none)) rfl ?_)
  refine s_op (o_pnil (p := none) Tryz.underlying65 rfl rfl ?_)
  refine s_nil ?_
  refine t_norm (hK6 _ _ ?_)
  refine c_true rfl rfl ?_
  refine wp_seq_k fun K7 hK7 => ?_
  refine c_region ?_
  refine s_op (o_assign (v := (.int .i64 1)) rfl ?_)
  refine s_nil ?_
  refine t_norm (hK7 _ _ ?_)
  refine wp_ret ?_
  refine t_ret (c_ret1 Tryz.results37  (v := (.int .i64 1)) rfl ?_)
  have hH8 : Has E w3 [R] := (hH4.front 1 rfl).first 1 rfl
  exact ⟨rfl, hH8⟩
set_option maxHeartbeats 4000000 in
theorem ppin_nil {E w : World} {R : List Hp} (hH : Has E w [R]) (u : Value) :
    Calls Tryz.prog 43 #[(.pointer none), u] w fun e w' => e = .returned (.int .i64 1) ∧ Has E w' [R] := by
  refine c_enter (args := [(.pointer none), u]) Tryz.func43 rfl Tryz.ntmps43 (by simp) ?_
  refine wp_seq_k fun K1 hK1 => ?_
  refine c_region ?_
  refine s_op (o_assign (v := (.int .i64 0)) rfl ?_)
  refine s_nil ?_
  refine t_norm (hK1 _ _ ?_)
  refine wp_seq_k fun K2 hK2 => ?_
  refine c_region ?_
  refine s_op (o_move (v := (.pointer none)) rfl ?_)
  refine s_op (o_move (v := u) rfl ?_)
  refine s_op (o_callf (vs := #[(.pointer none), u, (.func (.func 85) #[] #[])]) ca79 rfl (args3 rfl rfl rfl) (peach_nil hH.all u (.func (.func 85) #[] #[])) ?_)
  rintro _ w5 ⟨rfl, hX3⟩
  refine ⟨_, rfl, ?_⟩
  have hH4 := hX3.of_all
  refine s_op (o_assign (v := (.int .i64 (1 : Int))) rfl ?_)
  refine s_nil ?_
  refine t_norm (hK2 _ _ ?_)
  refine wp_ret ?_
  refine c_ret1 Tryz.results43  (v := (.int .i64 (1 : Int))) rfl ?_
  exact ⟨rfl, hH4⟩
set_option maxHeartbeats 4000000 in
theorem punpin_nil {E w : World} {R : List Hp} (hH : Has E w [R]) (u : Value) :
    Calls Tryz.prog 44 #[(.pointer none), u] w fun e w' => e = .returned (.int .i64 1) ∧ Has E w' [R] := by
  refine c_enter (args := [(.pointer none), u]) Tryz.func44 rfl Tryz.ntmps44 (by simp) ?_
  refine wp_seq_k fun K1 hK1 => ?_
  refine c_region ?_
  refine s_op (o_assign (v := (.int .i64 0)) rfl ?_)
  refine s_nil ?_
  refine t_norm (hK1 _ _ ?_)
  refine wp_seq_k fun K2 hK2 => ?_
  refine c_region ?_
  refine s_op (o_move (v := (.pointer none)) rfl ?_)
  refine s_op (o_move (v := u) rfl ?_)
  refine s_op (o_callf (vs := #[(.pointer none), u, (.func (.func 86) #[] #[])]) ca79 rfl (args3 rfl rfl rfl) (peach_nil hH.all u (.func (.func 86) #[] #[])) ?_)
  rintro _ w5 ⟨rfl, hX3⟩
  refine ⟨_, rfl, ?_⟩
  have hH4 := hX3.of_all
  refine s_op (o_assign (v := (.int .i64 (1 : Int))) rfl ?_)
  refine s_nil ?_
  refine t_norm (hK2 _ _ ?_)
  refine wp_ret ?_
  refine c_ret1 Tryz.results44  (v := (.int .i64 (1 : Int))) rfl ?_
  exact ⟨rfl, hH4⟩
set_option maxHeartbeats 4000000 in
theorem pevict_nil {E w : World} {R : List Hp} (hH : Has E w [R]) (u : Value) :
    Calls Tryz.prog 40 #[(.pointer none), u] w fun e w' => e = .returned (.int .i64 1) ∧ Has E w' [R] := by
  refine c_enter (args := [(.pointer none), u]) Tryz.func40 rfl Tryz.ntmps40 (by simp) ?_
  refine wp_seq_k fun K1 hK1 => ?_
  refine c_region ?_
  refine s_op (o_box (cs := #[(.pointer none)]) rfl rfl hH fun b2 w3 hH4 => ?_)
  refine s_op (o_assign (v := (.int .i64 0)) rfl ?_)
  refine s_nil ?_
  refine t_norm (hK1 _ _ ?_)
  refine wp_seq_k fun K5 hK5 => ?_
  refine c_region ?_
  refine s_op (o_load1 (v := (.pointer none)) Tryz.underlying65 rfl rfl hH4 (seg_sub 0 rfl) (CellsAt.one rfl) ?_)
  refine s_op (o_move (v := u) rfl ?_)
  refine s_op (o_makeFunc (vs := #[(.pointer (some ⟨b2, 0, none⟩))]) (cap1 rfl) ?_)
  refine s_op (o_callf (vs := #[(.pointer none), u, (.func (.func 81) #[] #[(.pointer (some ⟨b2, 0, none⟩))])]) ca79 rfl (args3 rfl rfl rfl) (peach_nil hH4.all u (.func (.func 81) #[] #[(.pointer (some ⟨b2, 0, none⟩))])) ?_)
  rintro _ w8 ⟨rfl, hX6⟩
  refine ⟨_, rfl, ?_⟩
  have hH7 := hX6.of_all
  refine s_op (o_assign (v := (.int .i64 (1 : Int))) rfl ?_)
  refine s_nil ?_
  refine t_norm (hK5 _ _ ?_)
  refine wp_ret ?_
  refine c_ret1 Tryz.results40  (v := (.int .i64 (1 : Int))) rfl ?_
  have hH9 : Has E w8 [R] := (hH7.front 1 rfl).first 1 rfl
  exact ⟨rfl, hH9⟩
set_option maxHeartbeats 4000000 in
theorem pflush_nil {E w : World} {R : List Hp} (hH : Has E w [R]) (x : Int) :
    Calls Tryz.prog 39 #[(.pointer none), (.int .i64 x), (.slice none 0 0)] w fun e w' => e = .returned (.tuple #[.int .i64 0, .int .i64 1]) ∧ Has E w' [R] := by
  refine c_enter (args := [(.pointer none), (.int .i64 x), (.slice none 0 0)]) Tryz.func39 rfl Tryz.ntmps39 (by simp) ?_
  refine wp_seq_k fun K1 hK1 => ?_
  refine c_region ?_
  refine s_op (o_box (cs := #[(.pointer none)]) rfl rfl hH fun b2 w3 hH4 => ?_)
  refine s_op (o_box (cs := #[(.int .i64 x)]) rfl rfl hH4 fun b5 w6 hH7 => ?_)
  refine s_op (o_assign (v := (.int .i64 0)) rfl ?_)
  refine s_op (o_assign (v := (.int .i64 0)) rfl ?_)
  refine s_nil ?_
  refine t_norm (hK1 _ _ ?_)
  refine wp_seq_k fun K8 hK8 => ?_
  refine c_region ?_
  refine s_op (o_alloc (cs := #[(.int .i64 0)]) ti3 rfl hH7 fun b9 w10 hH11 => ?_)
  refine s_eff (o_store1 (c' := #[(.int .i64 0)]) ti3 rfl rfl rfl (by simp) rfl (hH11.front 0 rfl) fun w12 hH13 => ?_)
  refine s_nil ?_
  refine t_norm (hK8 _ _ ?_)
  refine wp_seq_k fun K14 hK14 => ?_
  refine wp_seq_k fun K15 hK15 => ?_
  refine c_region ?_
  refine s_op (o_move (v := (.slice none 0 0)) rfl ?_)
  refine s_op (o_lenS Tryz.underlying40 rfl (sl_nil (L := []) 1) ?_)
  refine s_op (o_eql (a := ((0 : Nat) : Int)) (b := 0) rfl rfl ?_)
  refine s_nil ?_
  refine t_norm (hK15 _ _ ?_)
  refine c_true rfl rfl ?_
  refine wp_seq_k fun K16 hK16 => ?_
  refine c_region ?_
  refine s_op (o_load1 (v := (.pointer none)) Tryz.underlying65 rfl rfl hH13 (seg_sub 2 rfl) (CellsAt.one rfl) ?_)
  refine s_op (o_callf (vs := #[(.pointer none)]) ca45 rfl (args1 rfl) (pdirty_nil hH13.all) ?_)
  rintro _ w19 ⟨rfl, hX17⟩
  refine ⟨_, rfl, ?_⟩
  have hH18 := hX17.of_all
  refine s_op (o_lenS Tryz.underlying86 rfl (sl_nil (L := []) 1) ?_)
  refine s_op (o_move (v := (.int .i64 0)) rfl ?_)
  refine s_nil ?_
  refine t_norm (hK16 _ _ ?_)
  refine wp_block ?_
  refine u_loop 2 (u_round ?_)
  refine wp_seq_k fun K20 hK20 => ?_
  refine c_region ?_
  refine s_op (o_lss (a := 0) (b := ((0 : Nat) : Int)) rfl rfl ?_)
  refine s_nil ?_
  refine t_norm (hK20 _ _ ?_)
  refine wp_seq_k fun K21 hK21 => ?_
  refine c_false rfl rfl ?_
  refine wp_exit ?_
  refine t_exit (t_exit (x_in (?_)))
  refine t_norm (hK14 _ _ ?_)
  refine wp_seq_k fun K22 hK22 => ?_
  refine c_region ?_
  refine s_op (o_load1 (v := (.pointer none)) Tryz.underlying65 rfl rfl hH18 (seg_sub 2 rfl) (CellsAt.one rfl) ?_)
  refine s_op (o_move (v := (.slice none 0 0)) rfl ?_)
  refine s_op (o_makeFunc (vs := #[(.pointer (some ⟨b5, 0, none⟩)), (.pointer (some ⟨b2, 0, none⟩)), (.pointer (some ⟨b9, 0, none⟩))]) (cap3 rfl rfl rfl) ?_)
  refine s_op (o_callf (vs := #[(.pointer none), (.slice none 0 0), (.func (.func 80) #[] #[(.pointer (some ⟨b5, 0, none⟩)), (.pointer (some ⟨b2, 0, none⟩)), (.pointer (some ⟨b9, 0, none⟩))])]) ca79 rfl (args3 rfl rfl rfl) (peach_nil hH18.all (.slice none 0 0) (.func (.func 80) #[] #[(.pointer (some ⟨b5, 0, none⟩)), (.pointer (some ⟨b2, 0, none⟩)), (.pointer (some ⟨b9, 0, none⟩))])) ?_)
  rintro _ w25 ⟨rfl, hX23⟩
  refine ⟨_, rfl, ?_⟩
  have hH24 := hX23.of_all
  refine s_op (o_assign (v := (.int .i64 (1 : Int))) rfl ?_)
  refine s_nil ?_
  refine t_norm (hK22 _ _ ?_)
  refine wp_seq_k fun K26 hK26 => ?_
  refine c_region ?_
  refine s_op (o_load1 (v := (.int .i64 0)) Tryz.underlying3 rfl rfl hH24 (seg_sub 0 rfl) (CellsAt.one rfl) ?_)
  refine s_op (o_move (v := (.int .i64 (1 : Int))) rfl ?_)
  refine s_op (o_assign (v := (.int .i64 0)) rfl ?_)
  refine s_op (o_assign (v := (.int .i64 (1 : Int))) rfl ?_)
  refine s_nil ?_
  refine t_norm (hK26 _ _ ?_)
  refine wp_ret ?_
  refine c_ret2 Tryz.results39  (v := (.int .i64 0)) rfl (x := (.int .i64 (1 : Int))) rfl ?_
  have hH27 : Has E w25 [R] := (hH24.front 3 rfl).first 1 rfl
  exact ⟨rfl, hH27⟩
set_option maxHeartbeats 4000000 in
theorem pnew_nil {E w : World} {R : List Hp} (hH : Has E w [R]) (x : Int) :
    Calls Tryz.prog 42 #[(.pointer none), (.int .i64 x)] w fun e w' => e = .returned (.pointer none) ∧ Has E w' [R] := by
  refine c_enter (args := [(.pointer none), (.int .i64 x)]) Tryz.func42 rfl Tryz.ntmps42 (by simp) ?_
  refine wp_seq_k fun K1 hK1 => ?_
  refine c_region ?_
  refine s_op (o_assign (v := (.pointer none)) rfl ?_)
  refine s_nil ?_
  refine t_norm (hK1 _ _ ?_)
  refine wp_seq_k fun K2 hK2 => ?_
  refine wp_seq_k fun K3 hK3 => ?_
  refine c_region ?_
  refine s_op (o_move (v := (.pointer none)) rfl ?_)
  refine s_op (o_pnil (p := none) Tryz.underlying25 rfl rfl ?_)
  refine s_op (o_move (v := (.bool true)) rfl ?_)
  refine s_off (b' := true) 7 rfl rfl rfl ?_
  refine s_off (b' := true) 7 rfl rfl rfl ?_
  refine s_op (o_pick_t (u := (.bool true)) rfl rfl ?_)
  refine s_nil ?_
  refine t_norm (hK3 _ _ ?_)
  refine c_true rfl rfl ?_
  refine wp_seq_k fun K4 hK4 => ?_
  refine c_region ?_
  refine s_op (o_assign (v := (.pointer none)) rfl ?_)
  refine s_nil ?_
  refine t_norm (hK4 _ _ ?_)
  refine wp_ret ?_
  refine t_ret (c_ret1 Tryz.results42  (v := (.pointer none)) rfl ?_)
  exact ⟨rfl, hH⟩
set_option maxHeartbeats 4000000 in
theorem pnew_bad {E w : World} {R : List Hp} (hH : Has E w [R]) {tb : Nat} {x : Int} (hx : ¬ 1 ≤ x) :
    Calls Tryz.prog 42 #[(.pointer (some ⟨tb, 0, none⟩)), (.int .i64 x)] w fun e w' => e = .returned (.pointer none) ∧ Has E w' [R] := by
  refine c_enter (args := [(.pointer (some ⟨tb, 0, none⟩)), (.int .i64 x)]) Tryz.func42 rfl Tryz.ntmps42 (by simp) ?_
  refine wp_seq_k fun K1 hK1 => ?_
  refine c_region ?_
  refine s_op (o_assign (v := (.pointer none)) rfl ?_)
  refine s_nil ?_
  refine t_norm (hK1 _ _ ?_)
  refine wp_seq_k fun K2 hK2 => ?_
  refine wp_seq_k fun K3 hK3 => ?_
  refine c_region ?_
  refine s_op (o_move (v := (.pointer (some ⟨tb, 0, none⟩))) rfl ?_)
  refine s_op (o_pnil (p := some _) Tryz.underlying25 rfl rfl ?_)
  refine s_op (o_move (v := (.bool false)) rfl ?_)
  refine s_on 7 rfl rfl (o_move (v := (.int .i64 x)) rfl ?_)
  refine s_on 7 rfl rfl (o_lss (a := x) (b := 1) rfl rfl ?_)
  refine s_op (o_pick_f (u := (.bool (decide (x < 1)))) rfl rfl ?_)
  refine s_nil ?_
  refine t_norm (hK3 _ _ ?_)
  refine c_cond rfl (fun h4 => ?_) (fun h4 => ?_)
  · -- x < 1
    refine wp_seq_k fun K5 hK5 => ?_
    refine c_region ?_
    refine s_op (o_assign (v := (.pointer none)) rfl ?_)
    refine s_nil ?_
    refine t_norm (hK5 _ _ ?_)
    refine wp_ret ?_
    refine t_ret (c_ret1 Tryz.results42  (v := (.pointer none)) rfl ?_)
    exact ⟨rfl, hH⟩
  · -- not: x < 1
    exfalso; omega
set_option maxHeartbeats 4000000 in
theorem pnew_some {E w : World} {R : List Hp} (hH : Has E w [R]) {tb : Nat} {x : Int} (hx : 1 ≤ x) :
    Calls Tryz.prog 42 #[(.pointer (some ⟨tb, 0, none⟩)), (.int .i64 x)] w fun e w' => ∃ pl, e = .returned (.pointer (some ⟨pl, 0, none⟩)) ∧ Has E w' [R] := by
  refine c_enter (args := [(.pointer (some ⟨tb, 0, none⟩)), (.int .i64 x)]) Tryz.func42 rfl Tryz.ntmps42 (by simp) ?_
  refine wp_seq_k fun K1 hK1 => ?_
  refine c_region ?_
  refine s_op (o_assign (v := (.pointer none)) rfl ?_)
  refine s_nil ?_
  refine t_norm (hK1 _ _ ?_)
  refine wp_seq_k fun K2 hK2 => ?_
  refine wp_seq_k fun K3 hK3 => ?_
  refine c_region ?_
  refine s_op (o_move (v := (.pointer (some ⟨tb, 0, none⟩))) rfl ?_)
  refine s_op (o_pnil (p := some _) Tryz.underlying25 rfl rfl ?_)
  refine s_op (o_move (v := (.bool false)) rfl ?_)
  refine s_on 7 rfl rfl (o_move (v := (.int .i64 x)) rfl ?_)
  refine s_on 7 rfl rfl (o_lss (a := x) (b := 1) rfl rfl ?_)
  refine s_op (o_pick_f (u := (.bool (decide (x < 1)))) rfl rfl ?_)
  refine s_nil ?_
  refine t_norm (hK3 _ _ ?_)
  refine c_cond rfl (fun h4 => ?_) (fun h4 => ?_)
  · -- x < 1
    exfalso; omega
  · -- not: x < 1
    refine wp_skip ?_
    refine t_norm (hK2 _ _ ?_)
    refine wp_seq_k fun K5 hK5 => ?_
    refine c_region ?_
    refine s_op (o_move (v := (.pointer (some ⟨tb, 0, none⟩))) rfl ?_)
    refine s_op (o_move (v := (.int .i64 x)) rfl ?_)
    refine s_op (o_makeMap hH fun m6 w7 hH8 => ?_)
    refine s_op (o_sight (v := (.agg #[(.pointer (some ⟨tb, 0, none⟩)), (.int .i64 x), (.map (some m6))])) (fun _ => by kernel_rfl) ?_)
    refine s_op (o_box (cs := #[(.pointer (some ⟨tb, 0, none⟩)), (.int .i64 x), (.map (some m6))]) rfl rfl hH8 fun b9 w10 hH11 => ?_)
    refine s_op (o_assign (v := (.pointer (some ⟨b9, 0, none⟩))) rfl ?_)
    refine s_nil ?_
    refine t_norm (hK5 _ _ ?_)
    refine wp_ret ?_
    refine c_ret1 Tryz.results42  (v := (.pointer (some ⟨b9, 0, none⟩))) rfl ?_
    have hH12 : Has E w10 [R] := (hH11.front 2 rfl).first 1 rfl
    exact ⟨_, rfl, hH12⟩
end Go.Q
namespace Go.Q
theorem sl_nil0 {L : List Hp} {sz n cap : Nat} {cs : List Value} (h : Sl L sz (.slice none n cap) n cs) : n = 0 := by
  obtain ⟨q, c, e, h1, h2, h3, h4⟩ := h
  cases e
  rcases Nat.eq_zero_or_pos n with h | h
  · exact h
  · obtain ⟨b, o, e, _⟩ := h4 h; cases e
end Go.Q
namespace Go.Q
open Go.Proofs
set_option linter.unusedVariables false
set_option maxRecDepth 100000
attribute [local irreducible] wpList OK Code.wp
set_option maxHeartbeats 4000000 in
theorem cclone_c_p {E w : World} {R : List Hp} (hH : Has E w [R]) {p : Option Addr} {cap : Nat} {l : List Cel} (hv : Sl R 2 (.slice p l.length cap) l.length (l.flatMap ceC)) (hl : l.length ≤ 1000000) :
    Calls Tryz.prog 112 #[(.slice p l.length cap)] w fun e w' => ∃ v' hs', e = .returned v' ∧ Own 70 2 v' l.length (l.flatMap ceC) hs' ∧ Has E w' [hs', R] := by
  refine c_enter (args := [(.slice p l.length cap)]) Tryz.func112 rfl Tryz.ntmps112 (by simp) ?_
  refine wp_seq_k fun K1 hK1 => ?_
  refine c_region ?_
  refine s_op (o_assign (v := (.slice none 0 0)) rfl ?_)
  refine s_nil ?_
  refine t_norm (hK1 _ _ ?_)
  refine wp_seq_k fun K2 hK2 => ?_
  refine wp_seq_k fun K3 hK3 => ?_
  refine c_region ?_
  refine s_op (o_move (v := (.slice p l.length cap)) rfl ?_)
  refine s_op (o_snil Tryz.underlying34 rfl rfl ?_)
  refine s_nil ?_
  refine t_norm (hK3 _ _ ?_)
  refine c_condb rfl (fun h4 => ?_) (fun h4 => ?_)
  · -- p.isNone
    refine wp_seq_k fun K5 hK5 => ?_
    refine c_region ?_
    refine s_op (o_assign (v := (.slice none 0 0)) rfl ?_)
    refine s_nil ?_
    refine t_norm (hK5 _ _ ?_)
    refine wp_ret ?_
    refine t_ret (c_ret1 Tryz.results112  (v := (.slice none 0 0)) rfl ?_)
    have e0 : l = [] := List.eq_nil_of_length_eq_zero (by obtain rfl : p = none := (by simpa using h4); exact sl_nil0 hv)
    subst e0
    exact ⟨_, _, rfl, Own.nil 70 2, Has.nil hH⟩
  · -- not: p.isNone
    refine wp_skip ?_
    refine t_norm (hK2 _ _ ?_)
    refine wp_seq_k fun K6 hK6 => ?_
    refine c_region ?_
    refine s_op (o_buildSlice (ps := #[]) (cells := #[]) Tryz.underlying34 ti70 (by decide) (parts0) (by kernel_rfl) hH fun b7 w8 hH9 => ?_)
    refine s_op (o_move (v := (.slice p l.length cap)) rfl ?_)
    refine s_op (o_append Tryz.underlying34 ti70 rfl (by decide) rfl (Own.lit (e := 70) (sz := 2) (n := 0) (b := b7) (cur := #[]) rfl (by decide)) rfl hv (hH9.front 0 rfl) (seg_sub 0 rfl) (one_ceC _) (by simp; omega) (by simp; omega) fun v10 s11 w13 ho12 hH14 => ?_)
    have ho12 : Own 70 2 v10 l.length (l.flatMap ceC) s11 := Own.appF (a := []) ho12
    refine s_op (o_assign (v := v10) rfl ?_)
    refine s_nil ?_
    refine t_norm (hK6 _ _ ?_)
    refine wp_ret ?_
    refine c_ret1 Tryz.results112  (v := v10) rfl ?_
    exact ⟨_, _, rfl, by simpa using ho12, hH14⟩
theorem cclone_c {E w : World} {R : List Hp} {v_l : Value} {l : List Cel} (hH : Has E w [R]) (h_l : Sl R 2 v_l l.length (l.flatMap ceC)) (hn : l.length ≤ 1000000) :
    Calls Tryz.prog 112 #[v_l] w fun e w' => ∃ v' hs', e = .returned v' ∧ Own 70 2 v' l.length (l.flatMap ceC) hs' ∧ Has E w' [hs', R] := by
  obtain ⟨p, cap, rfl⟩ := Sl.form h_l
  exact cclone_c_p hH h_l hn
set_option maxHeartbeats 4000000 in
theorem copied_c {E w : World} {R : List Hp} {no : Int} {gsn : Int} {v_l : Value} {l : List Cel}  (hH : Has E w [R]) (h_l : Sl R 2 v_l l.length (l.flatMap ceC)) (hl : l.length ≤ 1000000) :
    Calls Tryz.prog 76 #[(.agg #[(.int .i64 no), (.int .i64 gsn), v_l])] w fun e w' => ∃ (v1' : Value) (s2' : List Hp), e = .returned (.agg #[(.int .i64 no), (.int .i64 gsn), v1']) ∧ (Own 70 2 v1' l.length (l.flatMap ceC) s2') ∧ Has E w' [s2', R] := by
  have hln_ := h_l.le
  refine c_enter (args := [(.agg #[(.int .i64 no), (.int .i64 gsn), v_l])]) Tryz.func76 rfl Tryz.ntmps76 (by simp) ?_
  refine wp_seq_k fun K1 hK1 => ?_
  refine c_region ?_
  refine s_op (o_box (cs := #[(.int .i64 no), (.int .i64 gsn), v_l]) rfl rfl hH fun b2 w3 hH4 => ?_)
  refine s_op (o_alloc (cs := #[(.int .i64 0), (.int .i64 0), (.slice none 0 0)]) ti36 rfl hH4 fun b5 w6 hH7 => ?_)
  refine s_nil ?_
  refine t_norm (hK1 _ _ ?_)
  refine wp_seq_k fun K8 hK8 => ?_
  refine c_region ?_
  refine s_op (o_fieldAddr (k := 2) (fun _ => by kernel_rfl) rfl ?_)
  refine s_op (o_load1 (v := v_l) Tryz.underlying34 rfl rfl hH7 (seg_sub 1 rfl) (CellsAt.one rfl) ?_)
  refine s_op (o_callf (vs := #[v_l]) ca112 rfl (args1 rfl) (cclone_c (l := l) hH7.all (h_l.mono (seg_sub 2 rfl)) (by first | omega | (simp only []; omega) | (simp; done) | (simp; omega))) ?_)
  rintro _ w14 ⟨v9, s10, rfl, ho11, hX12⟩
  refine ⟨_, rfl, ?_⟩
  have hH13 : Has E w14 [s10, [Hp.one b5 (.cells #[(.int .i64 0), (.int .i64 0), (.slice none 0 0)] 36 (0, 0))], [Hp.one b2 (.cells #[(.int .i64 no), (.int .i64 gsn), v_l] 36 (0, 0))], R] := hX12.of_all1
  refine s_op (o_fieldAddr (k := 2) (fun _ => by kernel_rfl) rfl ?_)
  refine s_eff (o_store1 (c' := #[(.int .i64 no), (.int .i64 gsn), v9]) ti34 rfl rfl ho11.one (by simp) rfl (hH13.front 2 rfl) fun w15 hH16 => ?_)
  refine s_nil ?_
  refine t_norm (hK8 _ _ ?_)
  refine wp_seq_k fun K17 hK17 => ?_
  refine c_region ?_
  refine s_op (o_loadN (cs := [(.int .i64 no), (.int .i64 gsn), v9]) Tryz.underlying36 rfl ti36 rfl hH16 (seg_sub 0 rfl) (CellsAt.one rfl) ?_)
  refine s_eff (o_storeN (vs := [(.int .i64 no), (.int .i64 gsn), v9]) (c' := #[(.int .i64 no), (.int .i64 gsn), v9]) ti36 rfl rfl rfl rfl (by intro u hu; simp only [List.mem_cons, List.not_mem_nil, or_false] at hu; rcases hu with rfl | rfl | rfl <;> first | rfl | exact ho11.one) (by simp) (by kernel_rfl) (hH16.front 2 rfl) fun w18 hH19 => ?_)
  refine s_nil ?_
  refine t_norm (hK17 _ _ ?_)
  refine wp_ret ?_
  refine c_retC1 Tryz.results76 rfl (run_loadVarN (cs := [(.int .i64 no), (.int .i64 gsn), v9]) Tryz.underlying36 rfl ti36 hH19 (seg_sub 0 rfl) (CellsAt.one rfl)) ?_
  have hH20 : Has E w18 [s10, R] := ((hH19.front 3 rfl).front 3 rfl).first 2 rfl
  exact ⟨_, _, rfl, ho11, hH20⟩
set_option maxHeartbeats 4000000 in
theorem place_room {E w : World} {R : List Hp} {pl : Nat} {sg_pl : List Hp} {v : PolS}  (hH : Has E w [sg_pl, R]) (h_pl : PolAt pl sg_pl v) (hrm : (v.fr.length : Int) < v.room) :
    Calls Tryz.prog 77 #[(.pointer (some ⟨pl, 0, none⟩))] w fun e w' => ∃ (sg_pl' : List Hp), e = .returned (.bool true) ∧ (PolAt pl sg_pl' v) ∧ Has E w' [sg_pl', R] := by
  obtain ⟨x1, x2, s3, s4, rfl, f5, f6⟩ := h_pl
  have hH7 : Has E w [[Hp.one pl (.cells #[(.pointer (some ⟨x1, 0, none⟩)), (.int .i64 v.room), (.map (some x2))] 81 (0, 0))], s3, s4, R] := Has.op3 hH
  refine c_enter (args := [(.pointer (some ⟨pl, 0, none⟩))]) Tryz.func77 rfl Tryz.ntmps77 (by simp) ?_
  refine wp_seq_k fun K8 hK8 => ?_
  refine c_region ?_
  refine s_op (o_assign (v := (.bool false)) rfl ?_)
  refine s_nil ?_
  refine t_norm (hK8 _ _ ?_)
  refine wp_seq_k fun K9 hK9 => ?_
  refine wp_seq_k fun K10 hK10 => ?_
  refine Rest.region mixed (by kernel_rfl) ?_
  have hH11 : Has E { w with drawn := w.drawn + 1 } [[Hp.one pl (.cells #[(.pointer (some ⟨x1, 0, none⟩)), (.int .i64 v.room), (.map (some x2))] 81 (0, 0))], s3, s4, R] := Has0.drew hH7 _
  refine Rest.phaseA (fun w_ => Has E w_ [[Hp.one pl (.cells #[(.pointer (some ⟨x1, 0, none⟩)), (.int .i64 v.room), (.map (some x2))] 81 (0, 0))], s4]) 0 9 9 rfl (by decide) (by kernel_rfl) ?_
  refine a_op 0 rfl (by kernel_rfl) (fun w_ h_ => o_move (v := (.pointer (some ⟨pl, 0, none⟩))) rfl ⟨rfl, rfl⟩) ?_
  refine a_op 1 rfl (by kernel_rfl) (fun w_ h_ => o_nilCheck rfl ⟨rfl, rfl⟩) ?_
  refine a_op 2 rfl (by kernel_rfl) (fun w_ h_ => o_fieldAddr (k := 2) (fun _ => by kernel_rfl) rfl ⟨rfl, rfl⟩) ?_
  refine a_op 3 rfl (by kernel_rfl) (fun w_ h_ => o_load1 (v := (.map (some x2))) Tryz.underlying79 rfl rfl h_ (seg_sub 0 rfl) (CellsAt.one rfl) ⟨rfl, rfl⟩) ?_
  refine a_op 4 rfl (by kernel_rfl) (fun w_ h_ => o_dirLen Tryz.underlying79 rfl (DirAt.rd (Rd := FrmRd) FrmRd.mono FrmAt.rd f6) h_ (seg_sub 1 rfl) ⟨rfl, rfl⟩) ?_
  refine a_op 5 rfl (by kernel_rfl) (fun w_ h_ => o_move (v := (.pointer (some ⟨pl, 0, none⟩))) rfl ⟨rfl, rfl⟩) ?_
  refine a_op 6 rfl (by kernel_rfl) (fun w_ h_ => o_nilCheck rfl ⟨rfl, rfl⟩) ?_
  refine a_op 7 rfl (by kernel_rfl) (fun w_ h_ => o_fieldAddr (k := 1) (fun _ => by kernel_rfl) rfl ⟨rfl, rfl⟩) ?_
  refine a_op 8 rfl (by kernel_rfl) (fun w_ h_ => o_load1 (v := (.int .i64 v.room)) Tryz.underlying3 rfl rfl h_ (seg_sub 0 rfl) (CellsAt.one rfl) ⟨rfl, rfl⟩) ?_
  have hH12 : Has E { w with drawn := w.drawn + 1 } [[Hp.one pl (.cells #[(.pointer (some ⟨x1, 0, none⟩)), (.int .i64 v.room), (.map (some x2))] 81 (0, 0))], s4] := ((hH11.front 2 rfl).front 1 rfl).first 2 rfl
  refine a_done (by kernel_rfl) hH12 ?_
  refine r_op 9 rfl (by kernel_rfl) (o_lss (a := ((v.fr.length : Nat) : Int)) (b := v.room) rfl rfl ?_)
  refine Rest.done (by kernel_rfl) ?_
  refine t_norm (hK10 _ _ ?_)
  refine c_cond rfl (fun h13 => ?_) (fun h13 => ?_)
  · -- ((v.fr.length : Nat) : Int) < v.room
    refine wp_seq_k fun K14 hK14 => ?_
    refine c_region ?_
    refine s_op (o_assign (v := (.bool true)) rfl ?_)
    refine s_nil ?_
    refine t_norm (hK14 _ _ ?_)
    refine wp_ret ?_
    refine t_ret (c_ret1 Tryz.results77  (v := (.bool true)) rfl ?_)
    have hH15 : Has E { w with drawn := w.drawn + 1 } [([Hp.one pl (.cells #[(.pointer (some ⟨x1, 0, none⟩)), (.int .i64 v.room), (.map (some x2))] 81 (0, 0))] ++ (s3 ++ s4)), R] := Has.cl3 (((hH11.front 2 rfl).front 2 rfl).front 2 rfl)
    have hd16 : PolAt pl ([Hp.one pl (.cells #[(.pointer (some ⟨x1, 0, none⟩)), (.int .i64 v.room), (.map (some x2))] 81 (0, 0))] ++ (s3 ++ s4)) v := PolAt.mk (v := v) f5 f6
    exact ⟨_, rfl, hd16, hH15⟩
  · -- not: ((v.fr.length : Nat) : Int) < v.room
    exact absurd hrm h13
end Go.Q
namespace Go.Q
open Go.Proofs
set_option linter.unusedVariables false
set_option maxRecDepth 100000
attribute [local irreducible] wpList OK Code.wp
set_option maxHeartbeats 4000000 in
theorem get_miss {E w : World} {R : List Hp} {pl : Nat} {sg_pl : List Hp} {v : PolS} {no : Int}  (hH : Has E w [sg_pl, R]) (h_pl : PolAt pl sg_pl v) (hg : CellsAt R 1 0 nibV) (hgn : getB v.fr no = none) (hrm : (v.fr.length : Int) < v.room) (hok : TwOk v.tw) (hno : 0 ≤ no ∧ no < v.tw.2) (hp0 : (PO v.tw no).2 = 0) (hpl : (PO v.tw no).1.2.2.length ≤ 1000000) :
    Calls Tryz.prog 36 #[(.pointer (some ⟨pl, 0, none⟩)), (.int .i64 no)] w fun e w' => ∃ (v1' : Value) (s2' : List Hp) (sg_pl' : List Hp), e = .returned (.tuple #[(.agg #[(.int .i64 ((PO v.tw no).1.1)), (.int .i64 ((PO v.tw no).1.2.1)), v1']), (.int .i64 0)]) ∧ (Own 70 2 v1' ((PO v.tw no).1.2.2).length (((PO v.tw no).1.2.2).flatMap ceC) s2') ∧ (PolAt pl sg_pl' (⟨v.tw, v.room, putB v.fr no ⟨(PO v.tw no).1.1, (PO v.tw no).1.2.1, (PO v.tw no).1.2.2, false, 0, 0⟩⟩ : PolS)) ∧ Has E w' [s2', sg_pl', R] := by
  obtain ⟨hno1_, hno2_⟩ := hno
  obtain ⟨x1, x2, s3, s4, rfl, f5, f6⟩ := h_pl
  have hH7 : Has E w [[Hp.one pl (.cells #[(.pointer (some ⟨x1, 0, none⟩)), (.int .i64 v.room), (.map (some x2))] 81 (0, 0))], s3, s4, R] := Has.op3 hH
  refine c_enter (args := [(.pointer (some ⟨pl, 0, none⟩)), (.int .i64 no)]) Tryz.func36 rfl Tryz.ntmps36 (by simp) ?_
  refine wp_seq_k fun K8 hK8 => ?_
  refine c_region ?_
  refine s_op (o_alloc (cs := #[(.int .i64 0), (.int .i64 0), (.slice none 0 0)]) ti36 rfl hH7 fun b9 w10 hH11 => ?_)
  refine s_op (o_assign (v := (.int .i64 0)) rfl ?_)
  refine s_nil ?_
  refine t_norm (hK8 _ _ ?_)
  refine wp_seq_k fun K12 hK12 => ?_
  refine wp_seq_k fun K13 hK13 => ?_
  refine c_region ?_
  refine s_op (o_move (v := (.pointer (some ⟨pl, 0, none⟩))) rfl ?_)
  refine s_op (o_pnil (p := some _) Tryz.underlying65 rfl rfl ?_)
  refine s_nil ?_
  refine t_norm (hK13 _ _ ?_)
  refine c_false rfl rfl ?_
  refine wp_skip ?_
  refine t_norm (hK12 _ _ ?_)
  refine wp_seq_k fun K14 hK14 => ?_
  refine wp_seq_k fun K15 hK15 => ?_
  refine c_region ?_
  refine s_op (o_move (v := (.pointer (some ⟨pl, 0, none⟩))) rfl ?_)
  refine s_op (o_nilCheck rfl ?_)
  refine s_op (o_fieldAddr (k := 2) (fun _ => by kernel_rfl) rfl ?_)
  refine s_op (o_load1 (v := (.map (some x2))) Tryz.underlying79 rfl rfl hH11 (seg_sub 1 rfl) (CellsAt.one rfl) ?_)
  refine s_op (o_move (v := (.int .i64 no)) rfl ?_)
  refine s_op (o_dirOut (k := no) Tryz.underlying79 (key_int Tryz.underlying3) ti123 rfl rfl f6 (hH11.front 3 rfl) (fun hN16 => ?_) (fun b18 v19 sx20 sr21 hS17 hx22 hh23 hH24 => ?_))
  · -- none
    refine s_op (o_assign (v := (.pointer none)) rfl ?_)
    refine s_nil ?_
    refine t_norm (hK15 _ _ ?_)
    refine wp_seq_k fun K25 hK25 => ?_
    refine c_region ?_
    refine s_op (o_move (v := (.pointer none)) rfl ?_)
    refine s_op (o_pnnil (p := none) Tryz.underlying123 rfl rfl ?_)
    refine s_nil ?_
    refine t_norm (hK25 _ _ ?_)
    refine c_false rfl rfl ?_
    refine wp_skip ?_
    refine t_norm (hK14 _ _ ?_)
    refine wp_seq_k fun K26 hK26 => ?_
    refine c_region ?_
    refine s_op (o_move (v := (.pointer (some ⟨pl, 0, none⟩))) rfl ?_)
    refine s_op (o_nilCheck rfl ?_)
    refine s_op (o_fieldAddr (k := 0) (fun _ => by kernel_rfl) rfl ?_)
    refine s_op (o_load1 (v := (.pointer (some ⟨x1, 0, none⟩))) Tryz.underlying25 rfl rfl hH11 (seg_sub 1 rfl) (CellsAt.one rfl) ?_)
    refine s_op (o_move (v := (.int .i64 no)) rfl ?_)
    refine s_op (o_callf (vs := #[(.pointer (some ⟨x1, 0, none⟩)), (.int .i64 no)]) ca24 rfl (args2 rfl rfl) (tpw_on (hH11.front 2 rfl).all1 f5 hok (hg.mono (seg_sub 3 rfl)) (x := no) (by omega)) ?_)
    rintro _ w32 ⟨v27, hs28, rfl, ho29, hX30⟩
    refine ⟨_, rfl, ?_⟩
    have hH31 : Has E w32 [hs28, s3, [Hp.one b9 (.cells #[(.int .i64 0), (.int .i64 0), (.slice none 0 0)] 36 (0, 0))], [Hp.one pl (.cells #[(.pointer (some ⟨x1, 0, none⟩)), (.int .i64 v.room), (.map (some x2))] 81 (0, 0))], s4, R] := hX30.of_all2
    refine s_op (o_move (v := (.tuple #[(.agg #[(.int .i64 ((PO v.tw no).1.1)), (.int .i64 ((PO v.tw no).1.2.1)), v27]), (.int .i64 ((PO v.tw no).2))])) rfl ?_)
    refine s_op (o_extract (v := (.agg #[(.int .i64 ((PO v.tw no).1.1)), (.int .i64 ((PO v.tw no).1.2.1)), v27])) rfl rfl ?_)
    refine s_op (o_extract (v := (.int .i64 ((PO v.tw no).2))) rfl rfl ?_)
    refine s_op (o_alloc (cs := #[(.int .i64 0), (.int .i64 0), (.slice none 0 0)]) ti36 rfl hH31 fun b33 w34 hH35 => ?_)
    refine s_eff (o_storeN (vs := [(.int .i64 ((PO v.tw no).1.1)), (.int .i64 ((PO v.tw no).1.2.1)), v27]) (c' := #[(.int .i64 ((PO v.tw no).1.1)), (.int .i64 ((PO v.tw no).1.2.1)), v27]) ti36 rfl rfl rfl rfl (by intro u hu; simp only [List.mem_cons, List.not_mem_nil, or_false] at hu; rcases hu with rfl | rfl | rfl <;> first | rfl | exact ho29.one) (by simp) (by kernel_rfl) (hH35.front 0 rfl) fun w36 hH37 => ?_)
    refine s_op (o_assign (v := (.int .i64 ((PO v.tw no).2))) rfl ?_)
    refine s_nil ?_
    refine t_norm (hK26 _ _ ?_)
    refine wp_seq_k fun K38 hK38 => ?_
    refine wp_seq_k fun K39 hK39 => ?_
    refine c_region ?_
    refine s_op (o_move (v := (.int .i64 ((PO v.tw no).2))) rfl ?_)
    refine s_op (o_neq (a := (PO v.tw no).2) (b := 0) rfl rfl ?_)
    refine s_nil ?_
    refine t_norm (hK39 _ _ ?_)
    refine c_cond rfl (fun h40 => ?_) (fun h40 => ?_)
    · -- (PO v.tw no).2 ≠ 0
      exact absurd hp0 h40
    · -- not: (PO v.tw no).2 ≠ 0
      refine wp_skip ?_
      refine t_norm (hK38 _ _ ?_)
      refine wp_seq_k fun K41 hK41 => ?_
      refine wp_seq_k fun K42 hK42 => ?_
      refine c_region ?_
      refine s_op (o_move (v := (.pointer (some ⟨pl, 0, none⟩))) rfl ?_)
      have hH43 : Has E w36 [([Hp.one pl (.cells #[(.pointer (some ⟨x1, 0, none⟩)), (.int .i64 v.room), (.map (some x2))] 81 (0, 0))] ++ (s3 ++ s4)), [Hp.one b33 (.cells #[(.int .i64 ((PO v.tw no).1.1)), (.int .i64 ((PO v.tw no).1.2.1)), v27] 36 (0, 0))], hs28, [Hp.one b9 (.cells #[(.int .i64 0), (.int .i64 0), (.slice none 0 0)] 36 (0, 0))], R] := Has.cl3 (((hH37.front 5 rfl).front 3 rfl).front 5 rfl)
      have hd44 : PolAt pl ([Hp.one pl (.cells #[(.pointer (some ⟨x1, 0, none⟩)), (.int .i64 v.room), (.map (some x2))] 81 (0, 0))] ++ (s3 ++ s4)) v := PolAt.mk (v := v) f5 f6
      refine s_op (o_callf (vs := #[(.pointer (some ⟨pl, 0, none⟩))]) ca77 rfl (args1 rfl) (place_room (v := v) hH43.all1 hd44 hrm) ?_)
      rintro _ w49 ⟨sg45, rfl, hd46, hX47⟩
      refine ⟨_, rfl, ?_⟩
      have hH48 : Has E w49 [sg45, [Hp.one b33 (.cells #[(.int .i64 ((PO v.tw no).1.1)), (.int .i64 ((PO v.tw no).1.2.1)), v27] 36 (0, 0))], hs28, [Hp.one b9 (.cells #[(.int .i64 0), (.int .i64 0), (.slice none 0 0)] 36 (0, 0))], R] := hX47.of_all1
      refine s_op (o_not rfl ?_)
      refine s_nil ?_
      refine t_norm (hK42 _ _ ?_)
      refine c_false rfl rfl ?_
      refine wp_skip ?_
      refine t_norm (hK41 _ _ ?_)
      refine wp_seq_k fun K50 hK50 => ?_
      refine Rest.region mixed (by kernel_rfl) ?_
      have hH51 : Has E { w49 with drawn := w49.drawn + 1 } [sg45, [Hp.one b33 (.cells #[(.int .i64 ((PO v.tw no).1.1)), (.int .i64 ((PO v.tw no).1.2.1)), v27] 36 (0, 0))], hs28, [Hp.one b9 (.cells #[(.int .i64 0), (.int .i64 0), (.slice none 0 0)] 36 (0, 0))], R] := Has0.drew hH48 _
      obtain ⟨x52, x53, s54, s55, rfl, f56, f57⟩ := hd46
      have hH58 : Has E { w49 with drawn := w49.drawn + 1 } [[Hp.one pl (.cells #[(.pointer (some ⟨x52, 0, none⟩)), (.int .i64 v.room), (.map (some x53))] 81 (0, 0))], s54, s55, [Hp.one b33 (.cells #[(.int .i64 ((PO v.tw no).1.1)), (.int .i64 ((PO v.tw no).1.2.1)), v27] 36 (0, 0))], hs28, [Hp.one b9 (.cells #[(.int .i64 0), (.int .i64 0), (.slice none 0 0)] 36 (0, 0))], R] := Has.op3 hH51
      refine Rest.phaseA (fun w_ => Has E w_ [[Hp.one pl (.cells #[(.pointer (some ⟨x52, 0, none⟩)), (.int .i64 v.room), (.map (some x53))] 81 (0, 0))], [Hp.one b33 (.cells #[(.int .i64 ((PO v.tw no).1.1)), (.int .i64 ((PO v.tw no).1.2.1)), v27] 36 (0, 0))]]) 0 8 8 rfl (by decide) (by kernel_rfl) ?_
      refine a_op 0 rfl (by kernel_rfl) (fun w_ h_ => o_move (v := (.pointer (some ⟨pl, 0, none⟩))) rfl ⟨rfl, rfl⟩) ?_
      refine a_op 1 rfl (by kernel_rfl) (fun w_ h_ => o_nilCheck rfl ⟨rfl, rfl⟩) ?_
      refine a_op 2 rfl (by kernel_rfl) (fun w_ h_ => o_fieldAddr (k := 2) (fun _ => by kernel_rfl) rfl ⟨rfl, rfl⟩) ?_
      refine a_op 3 rfl (by kernel_rfl) (fun w_ h_ => o_load1 (v := (.map (some x53))) Tryz.underlying79 rfl rfl h_ (seg_sub 0 rfl) (CellsAt.one rfl) ⟨rfl, rfl⟩) ?_
      refine a_op 4 rfl (by kernel_rfl) (fun w_ h_ => o_move (v := (.int .i64 no)) rfl ⟨rfl, rfl⟩) ?_
      refine a_op 5 rfl (by kernel_rfl) (fun w_ h_ => o_loadN (cs := [(.int .i64 ((PO v.tw no).1.1)), (.int .i64 ((PO v.tw no).1.2.1)), v27]) Tryz.underlying36 rfl ti36 rfl h_ (seg_sub 1 rfl) (CellsAt.one rfl) ⟨rfl, rfl⟩) ?_
      refine a_op 6 rfl (by kernel_rfl) (fun w_ h_ => o_sight (v := (.agg #[(.int .i64 ((PO v.tw no).1.1)), (.int .i64 ((PO v.tw no).1.2.1)), v27, (.bool false), (.int .i64 0), (.int .i64 0)])) (fun _ => by kernel_rfl) ⟨rfl, rfl⟩) ?_
      have hH59 : Has E { w49 with drawn := w49.drawn + 1 } [[Hp.one pl (.cells #[(.pointer (some ⟨x52, 0, none⟩)), (.int .i64 v.room), (.map (some x53))] 81 (0, 0))], [Hp.one b33 (.cells #[(.int .i64 ((PO v.tw no).1.1)), (.int .i64 ((PO v.tw no).1.2.1)), v27] 36 (0, 0))]] := ((hH58.front 3 rfl).front 1 rfl).first 2 rfl
      refine a_w 7 rfl (by kernel_rfl) hH59 (o_box (cs := #[(.int .i64 ((PO v.tw no).1.1)), (.int .i64 ((PO v.tw no).1.2.1)), v27, (.bool false), (.int .i64 0), (.int .i64 0)]) rfl rfl hH58 fun b60 w61 hH62 => ?_)
      have hH63 : Has E w61 [[Hp.one pl (.cells #[(.pointer (some ⟨x52, 0, none⟩)), (.int .i64 v.room), (.map (some x53))] 81 (0, 0))], [Hp.one b33 (.cells #[(.int .i64 ((PO v.tw no).1.1)), (.int .i64 ((PO v.tw no).1.2.1)), v27] 36 (0, 0))]] := ((hH62.front 4 rfl).front 2 rfl).first 2 rfl
      refine a_done (by kernel_rfl) hH63 ?_
      have hH64 : Has E w61 [([Hp.one b60 (.cells #[(.int .i64 ((PO v.tw no).1.1)), (.int .i64 ((PO v.tw no).1.2.1)), v27, (.bool false), (.int .i64 0), (.int .i64 0)] 126 (0, 0))] ++ hs28), [Hp.one pl (.cells #[(.pointer (some ⟨x52, 0, none⟩)), (.int .i64 v.room), (.map (some x53))] 81 (0, 0))], s54, s55, [Hp.one b33 (.cells #[(.int .i64 ((PO v.tw no).1.1)), (.int .i64 ((PO v.tw no).1.2.1)), v27] 36 (0, 0))], [Hp.one b9 (.cells #[(.int .i64 0), (.int .i64 0), (.slice none 0 0)] 36 (0, 0))], R] := Has.cl2 ((hH62.front 5 rfl).front 1 rfl)
      have hd65 : FrmAt b60 ([Hp.one b60 (.cells #[(.int .i64 ((PO v.tw no).1.1)), (.int .i64 ((PO v.tw no).1.2.1)), v27, (.bool false), (.int .i64 0), (.int .i64 0)] 126 (0, 0))] ++ hs28) (⟨(PO v.tw no).1.1, (PO v.tw no).1.2.1, (PO v.tw no).1.2.2, false, 0, 0⟩ : Frm) := FrmAt.mk (v := (⟨(PO v.tw no).1.1, (PO v.tw no).1.2.1, (PO v.tw no).1.2.2, false, 0, 0⟩ : Frm)) ho29
      refine r_eff 8 rfl (by kernel_rfl) (o_dirPut (k := no) Tryz.underlying79 (key_int Tryz.underlying3) rfl rfl rfl f57 hN16 hd65 (hH64.front 3 rfl) fun sr66 w67 hh68 hH69 => ?_)
      refine Rest.done (by kernel_rfl) ?_
      refine t_norm (hK50 _ _ ?_)
      refine wp_seq_k fun K70 hK70 => ?_
      refine c_region ?_
      refine s_op (o_loadN (cs := [(.int .i64 ((PO v.tw no).1.1)), (.int .i64 ((PO v.tw no).1.2.1)), v27]) Tryz.underlying36 rfl ti36 rfl hH69 (seg_sub 4 rfl) (CellsAt.one rfl) ?_)
      refine s_op (o_callf (vs := #[(.agg #[(.int .i64 ((PO v.tw no).1.1)), (.int .i64 ((PO v.tw no).1.2.1)), v27])]) ca76 rfl (args1 rfl) (copied_c (no := (PO v.tw no).1.1) (gsn := (PO v.tw no).1.2.1) (l := (PO v.tw no).1.2.2) hH69.all (ho29.sl.mono (fun _ g_ => (seg_sub 0 rfl) (List.mem_append_right _ g_))) (by first | omega | (simp only []; omega) | (simp; done) | (simp; omega))) ?_)
      rintro _ w76 ⟨v71, s72, rfl, ho73, hX74⟩
      refine ⟨_, rfl, ?_⟩
      have hH75 : Has E w76 [s72, ([Hp.one b60 (.cells #[(.int .i64 ((PO v.tw no).1.1)), (.int .i64 ((PO v.tw no).1.2.1)), v27, (.bool false), (.int .i64 0), (.int .i64 0)] 126 (0, 0))] ++ hs28), sr66, [Hp.one pl (.cells #[(.pointer (some ⟨x52, 0, none⟩)), (.int .i64 v.room), (.map (some x53))] 81 (0, 0))], s54, [Hp.one b33 (.cells #[(.int .i64 ((PO v.tw no).1.1)), (.int .i64 ((PO v.tw no).1.2.1)), v27] 36 (0, 0))], [Hp.one b9 (.cells #[(.int .i64 0), (.int .i64 0), (.slice none 0 0)] 36 (0, 0))], R] := hX74.of_all1
      refine s_eff (o_storeN (vs := [(.int .i64 ((PO v.tw no).1.1)), (.int .i64 ((PO v.tw no).1.2.1)), v71]) (c' := #[(.int .i64 ((PO v.tw no).1.1)), (.int .i64 ((PO v.tw no).1.2.1)), v71]) ti36 rfl rfl rfl rfl (by intro u hu; simp only [List.mem_cons, List.not_mem_nil, or_false] at hu; rcases hu with rfl | rfl | rfl <;> first | rfl | exact ho73.one) (by simp) (by kernel_rfl) (hH75.front 6 rfl) fun w77 hH78 => ?_)
      refine s_op (o_assign (v := (.int .i64 0)) rfl ?_)
      refine s_nil ?_
      refine t_norm (hK70 _ _ ?_)
      refine wp_ret ?_
      refine c_retC2 Tryz.results36 rfl (run_loadVarN (cs := [(.int .i64 ((PO v.tw no).1.1)), (.int .i64 ((PO v.tw no).1.2.1)), v71]) Tryz.underlying36 rfl ti36 hH78 (seg_sub 0 rfl) (CellsAt.one rfl)) (x := (.int .i64 0)) rfl ?_
      have q79 : (PO v.tw no).1.1 = ((PO v.tw no).1.1) := by rfl
      have q80 : (PO v.tw no).1.2.1 = ((PO v.tw no).1.2.1) := by rfl
      have q81 : (PO v.tw no).1.2.2 = ((PO v.tw no).1.2.2) := by rfl
      obtain ⟨sg82, hd83, hH84⟩ := DirHole.close hh68 hd65 ((hH78.front 3 rfl).front 3 rfl)
      have hd83 : DirAt iV FrmAt x53 sg82 (putB (putB v.fr no (⟨(PO v.tw no).1.1, (PO v.tw no).1.2.1, (PO v.tw no).1.2.2, false, 0, 0⟩ : Frm)) no (⟨(PO v.tw no).1.1, (PO v.tw no).1.2.1, (PO v.tw no).1.2.2, false, 0, 0⟩ : Frm)) := hd83
      have hH85 : Has E w77 [([Hp.one pl (.cells #[(.pointer (some ⟨x52, 0, none⟩)), (.int .i64 v.room), (.map (some x53))] 81 (0, 0))] ++ (s54 ++ sg82)), [Hp.one b9 (.cells #[(.int .i64 ((PO v.tw no).1.1)), (.int .i64 ((PO v.tw no).1.2.1)), v71] 36 (0, 0))], s72, [Hp.one b33 (.cells #[(.int .i64 ((PO v.tw no).1.1)), (.int .i64 ((PO v.tw no).1.2.1)), v27] 36 (0, 0))], R] := Has.cl3 ((hH84.front 4 rfl).front 4 rfl)
      have hd86 : PolAt pl ([Hp.one pl (.cells #[(.pointer (some ⟨x52, 0, none⟩)), (.int .i64 v.room), (.map (some x53))] 81 (0, 0))] ++ (s54 ++ sg82)) (⟨v.tw, v.room, (putB (putB v.fr no (⟨(PO v.tw no).1.1, (PO v.tw no).1.2.1, (PO v.tw no).1.2.2, false, 0, 0⟩ : Frm)) no (⟨(PO v.tw no).1.1, (PO v.tw no).1.2.1, (PO v.tw no).1.2.2, false, 0, 0⟩ : Frm))⟩ : PolS) := PolAt.mk (v := (⟨v.tw, v.room, (putB (putB v.fr no (⟨(PO v.tw no).1.1, (PO v.tw no).1.2.1, (PO v.tw no).1.2.2, false, 0, 0⟩ : Frm)) no (⟨(PO v.tw no).1.1, (PO v.tw no).1.2.1, (PO v.tw no).1.2.2, false, 0, 0⟩ : Frm))⟩ : PolS)) f56 hd83
      have q87 : (⟨v.tw, v.room, putB v.fr no ⟨(PO v.tw no).1.1, (PO v.tw no).1.2.1, (PO v.tw no).1.2.2, false, 0, 0⟩⟩ : PolS) = (⟨v.tw, v.room, (putB (putB v.fr no (⟨(PO v.tw no).1.1, (PO v.tw no).1.2.1, (PO v.tw no).1.2.2, false, 0, 0⟩ : Frm)) no (⟨(PO v.tw no).1.1, (PO v.tw no).1.2.1, (PO v.tw no).1.2.2, false, 0, 0⟩ : Frm))⟩ : PolS) := by rw [putB_twice]
      have hH88 : Has E w77 [s72, ([Hp.one pl (.cells #[(.pointer (some ⟨x52, 0, none⟩)), (.int .i64 v.room), (.map (some x53))] 81 (0, 0))] ++ (s54 ++ sg82)), R] := (((hH85.front 4 rfl).front 1 rfl).front 3 rfl).first 3 rfl
      exact ⟨_, _, _, by rw [q79, q80], (by rw [q81]; exact ho73), (by rw [q87]; exact hd86), hH88⟩
  · -- some
    exact absurd (Eq.trans (Eq.symm hgn) hS17) (by simp)
end Go.Q
namespace Go.Q
open Go.Proofs
set_option linter.unusedVariables false
set_option maxRecDepth 100000
attribute [local irreducible] wpList OK Code.wp
set_option maxHeartbeats 4000000 in
theorem change_ok {E w : World} {R : List Hp} {pl : Nat} {sg_pl : List Hp} {v : PolS} {no : Int} {gsn : Int} {v_l : Value} {l : List Cel} {g : Int} {f : Frm} (hH : Has E w [sg_pl, R]) (h_pl : PolAt pl sg_pl v) (h_l : Sl R 2 v_l l.length (l.flatMap ceC)) (hgf : getB v.fr no = some f) (hr : pageR no gsn l = true) (hlt : f.gsn < gsn) (hge : g = gsn) (hll : l.length ≤ 1000000) :
    Calls Tryz.prog 37 #[(.pointer (some ⟨pl, 0, none⟩)), (.agg #[(.int .i64 no), (.int .i64 gsn), v_l]), (.int .i64 g)] w fun e w' => ∃ (sg_pl' : List Hp), e = .returned (.int .i64 0) ∧ (PolAt pl sg_pl' (⟨v.tw, v.room, putB v.fr no ⟨no, gsn, l, true, (if f.dirty = true then f.first else g), f.pins⟩⟩ : PolS)) ∧ Has E w' [sg_pl', R] := by
  have hln_ := h_l.le
  obtain ⟨x1, x2, s3, s4, rfl, f5, f6⟩ := h_pl
  have hH7 : Has E w [[Hp.one pl (.cells #[(.pointer (some ⟨x1, 0, none⟩)), (.int .i64 v.room), (.map (some x2))] 81 (0, 0))], s3, s4, R] := Has.op3 hH
  refine c_enter (args := [(.pointer (some ⟨pl, 0, none⟩)), (.agg #[(.int .i64 no), (.int .i64 gsn), v_l]), (.int .i64 g)]) Tryz.func37 rfl Tryz.ntmps37 (by simp) ?_
  refine wp_seq_k fun K8 hK8 => ?_
  refine c_region ?_
  refine s_op (o_box (cs := #[(.int .i64 no), (.int .i64 gsn), v_l]) rfl rfl hH7 fun b9 w10 hH11 => ?_)
  refine s_op (o_assign (v := (.int .i64 0)) rfl ?_)
  refine s_nil ?_
  refine t_norm (hK8 _ _ ?_)
  refine wp_seq_k fun K12 hK12 => ?_
  refine wp_seq_k fun K13 hK13 => ?_
  refine c_region ?_
  refine s_op (o_move (v := (.pointer (some ⟨pl, 0, none⟩))) rfl ?_)
  refine s_op (o_pnil (p := some _) Tryz.underlying65 rfl rfl ?_)
  refine s_nil ?_
  refine t_norm (hK13 _ _ ?_)
  refine c_false rfl rfl ?_
  refine wp_skip ?_
  refine t_norm (hK12 _ _ ?_)
  refine wp_seq_k fun K14 hK14 => ?_
  refine Rest.region mixed (by kernel_rfl) ?_
  have hH15 : Has E { w10 with drawn := w10.drawn + 1 } [[Hp.one b9 (.cells #[(.int .i64 no), (.int .i64 gsn), v_l] 36 (0, 0))], [Hp.one pl (.cells #[(.pointer (some ⟨x1, 0, none⟩)), (.int .i64 v.room), (.map (some x2))] 81 (0, 0))], s3, s4, R] := Has0.drew hH11 _
  refine Rest.phaseA (fun w_ => Has E w_ [[Hp.one b9 (.cells #[(.int .i64 no), (.int .i64 gsn), v_l] 36 (0, 0))], [Hp.one pl (.cells #[(.pointer (some ⟨x1, 0, none⟩)), (.int .i64 v.room), (.map (some x2))] 81 (0, 0))]]) 0 6 6 rfl (by decide) (by kernel_rfl) ?_
  refine a_op 0 rfl (by kernel_rfl) (fun w_ h_ => o_move (v := (.pointer (some ⟨pl, 0, none⟩))) rfl ⟨rfl, rfl⟩) ?_
  refine a_op 1 rfl (by kernel_rfl) (fun w_ h_ => o_nilCheck rfl ⟨rfl, rfl⟩) ?_
  refine a_op 2 rfl (by kernel_rfl) (fun w_ h_ => o_fieldAddr (k := 2) (fun _ => by kernel_rfl) rfl ⟨rfl, rfl⟩) ?_
  refine a_op 3 rfl (by kernel_rfl) (fun w_ h_ => o_load1 (v := (.map (some x2))) Tryz.underlying79 rfl rfl h_ (seg_sub 1 rfl) (CellsAt.one rfl) ⟨rfl, rfl⟩) ?_
  refine a_op 4 rfl (by kernel_rfl) (fun w_ h_ => o_fieldAddr (k := 0) (fun _ => by kernel_rfl) rfl ⟨rfl, rfl⟩) ?_
  refine a_op 5 rfl (by kernel_rfl) (fun w_ h_ => o_load1 (v := (.int .i64 no)) Tryz.underlying3 rfl rfl h_ (seg_sub 0 rfl) (CellsAt.one rfl) ⟨rfl, rfl⟩) ?_
  have hH16 : Has E { w10 with drawn := w10.drawn + 1 } [[Hp.one b9 (.cells #[(.int .i64 no), (.int .i64 gsn), v_l] 36 (0, 0))], [Hp.one pl (.cells #[(.pointer (some ⟨x1, 0, none⟩)), (.int .i64 v.room), (.map (some x2))] 81 (0, 0))]] := ((hH15.front 1 rfl).front 1 rfl).first 2 rfl
  refine a_done (by kernel_rfl) hH16 ?_
  refine r_op 6 rfl (by kernel_rfl) (o_dirOut (k := no) Tryz.underlying79 (key_int Tryz.underlying3) ti123 rfl rfl f6 (hH15.front 3 rfl) (fun hN17 => ?_) (fun b19 v20 sx21 sr22 hS18 hx23 hh24 hH25 => ?_))
  · -- none
    exact absurd (Eq.trans (Eq.symm hgf) hN17) (by simp)
  · -- some
    have e_ : f = v20 := Option.some.inj (Eq.trans (Eq.symm hgf) hS18)
    subst e_
    refine r_op 7 rfl (by kernel_rfl) (o_assign (v := (.pointer (some ⟨b19, 0, none⟩))) rfl ?_)
    refine Rest.done (by kernel_rfl) ?_
    refine t_norm (hK14 _ _ ?_)
    refine wp_seq_k fun K26 hK26 => ?_
    refine wp_block ?_
    refine wp_seq_k fun K27 hK27 => ?_
    refine c_region ?_
    refine s_op (o_move (v := (.pointer (some ⟨b19, 0, none⟩))) rfl ?_)
    refine s_op (o_pnil (p := some _) Tryz.underlying123 rfl rfl ?_)
    refine s_op (o_assign (v := (.bool false)) rfl ?_)
    refine s_nil ?_
    refine t_norm (hK27 _ _ ?_)
    refine c_false rfl rfl ?_
    refine wp_seq_k fun K28 hK28 => ?_
    refine Rest.region mixed (by kernel_rfl) ?_
    have hH29 : Has E { { w10 with drawn := w10.drawn + 1 } with drawn := { w10 with drawn := w10.drawn + 1 }.drawn + 1 } [sx21, sr22, [Hp.one b9 (.cells #[(.int .i64 no), (.int .i64 gsn), v_l] 36 (0, 0))], [Hp.one pl (.cells #[(.pointer (some ⟨x1, 0, none⟩)), (.int .i64 v.room), (.map (some x2))] 81 (0, 0))], s3, R] := Has0.drew hH25 _
    refine r_op 0 rfl (by kernel_rfl) (o_loadN (cs := [(.int .i64 no), (.int .i64 gsn), v_l]) Tryz.underlying36 rfl ti36 rfl hH29 (seg_sub 2 rfl) (CellsAt.one rfl) ?_)
    refine r_op 1 rfl (by kernel_rfl) (o_callf (vs := #[(.agg #[(.int .i64 no), (.int .i64 gsn), v_l])]) ca78 rfl (args1 rfl) (pright_c (no := no) (gsn := gsn) (l := l) hH29.all (h_l.mono (seg_sub 5 rfl))) ?_)
    rintro _ w32 ⟨rfl, hX30⟩
    refine ⟨_, rfl, ?_⟩
    have hH31 := hX30.of_all
    refine r_op 2 rfl (by kernel_rfl) (o_not rfl ?_)
    refine r_op 3 rfl (by kernel_rfl) (o_move (v := (.bool (!(pageR no gsn l)))) rfl ?_)
    obtain ⟨x33, s34, rfl, f35⟩ := hx23
    have hH36 : Has E w32 [[Hp.one b19 (.cells #[(.int .i64 f.no), (.int .i64 f.gsn), x33, (.bool f.dirty), (.int .i64 f.first), (.int .i64 f.pins)] 126 (0, 0))], s34, sr22, [Hp.one b9 (.cells #[(.int .i64 no), (.int .i64 gsn), v_l] 36 (0, 0))], [Hp.one pl (.cells #[(.pointer (some ⟨x1, 0, none⟩)), (.int .i64 v.room), (.map (some x2))] 81 (0, 0))], s3, R] := Has.op2 hH31
    refine Rest.phaseA (fun w_ => Has E w_ [[Hp.one b19 (.cells #[(.int .i64 f.no), (.int .i64 f.gsn), x33, (.bool f.dirty), (.int .i64 f.first), (.int .i64 f.pins)] 126 (0, 0))], [Hp.one b9 (.cells #[(.int .i64 no), (.int .i64 gsn), v_l] 36 (0, 0))]]) 4 11 7 rfl (by decide) (by kernel_rfl) ?_
    rcases Bool.eq_false_or_eq_true (!(pageR no gsn l)) with h37 | h37
    · -- !(pageR no gsn l)
      exact absurd h37 (by rw [hr]; decide)
    · -- not: !(pageR no gsn l)
      refine a_on 4 rfl (by kernel_rfl) 24 rfl (congrArg Value.bool h37) (fun w_ h_ => o_fieldAddr (k := 1) (fun _ => by kernel_rfl) rfl ⟨rfl, rfl⟩) ?_
      refine a_on 5 rfl (by kernel_rfl) 24 rfl (congrArg Value.bool h37) (fun w_ h_ => o_load1 (v := (.int .i64 gsn)) Tryz.underlying3 rfl rfl h_ (seg_sub 1 rfl) (CellsAt.one rfl) ⟨rfl, rfl⟩) ?_
      refine a_on 6 rfl (by kernel_rfl) 24 rfl (congrArg Value.bool h37) (fun w_ h_ => o_move (v := (.pointer (some ⟨b19, 0, none⟩))) rfl ⟨rfl, rfl⟩) ?_
      refine a_on 7 rfl (by kernel_rfl) 24 rfl (congrArg Value.bool h37) (fun w_ h_ => o_nilCheck rfl ⟨rfl, rfl⟩) ?_
      refine a_on 8 rfl (by kernel_rfl) 24 rfl (congrArg Value.bool h37) (fun w_ h_ => o_fieldAddr (k := 0) (fun _ => by kernel_rfl) rfl ⟨rfl, rfl⟩) ?_
      refine a_on 9 rfl (by kernel_rfl) 24 rfl (congrArg Value.bool h37) (fun w_ h_ => o_fieldAddr (k := 1) (fun _ => by kernel_rfl) rfl ⟨rfl, rfl⟩) ?_
      refine a_on 10 rfl (by kernel_rfl) 24 rfl (congrArg Value.bool h37) (fun w_ h_ => o_load1 (v := (.int .i64 f.gsn)) Tryz.underlying3 rfl rfl h_ (seg_sub 0 rfl) (CellsAt.one rfl) ⟨rfl, rfl⟩) ?_
      have hH38 : Has E w32 [[Hp.one b19 (.cells #[(.int .i64 f.no), (.int .i64 f.gsn), x33, (.bool f.dirty), (.int .i64 f.first), (.int .i64 f.pins)] 126 (0, 0))], [Hp.one b9 (.cells #[(.int .i64 no), (.int .i64 gsn), v_l] 36 (0, 0))]] := ((hH36.front 3 rfl).front 1 rfl).first 2 rfl
      refine a_done (by kernel_rfl) hH38 ?_
      refine r_on 11 rfl (by kernel_rfl) 24 rfl (congrArg Value.bool h37) (o_leq (a := gsn) (b := f.gsn) rfl rfl ?_)
      refine r_op 12 rfl (by kernel_rfl) (o_pick_f (u := (.bool (decide (gsn ≤ f.gsn)))) ((rfl : _ = _).trans (congrArg Value.bool h37)) rfl ?_)
      refine r_op 13 rfl (by kernel_rfl) (o_move (v := (.bool (decide (gsn ≤ f.gsn)))) rfl ?_)
      refine Rest.phaseA (fun w_ => Has E w_ [[Hp.one b9 (.cells #[(.int .i64 no), (.int .i64 gsn), v_l] 36 (0, 0))]]) 14 17 3 rfl (by decide) (by kernel_rfl) ?_
      by_cases h39 : gsn ≤ f.gsn
      · -- gsn ≤ f.gsn
        exfalso; omega
      · -- not: gsn ≤ f.gsn
        refine a_on 14 rfl (by kernel_rfl) 34 rfl (congrArg Value.bool (decide_eq_false h39)) (fun w_ h_ => o_move (v := (.int .i64 g)) rfl ⟨rfl, rfl⟩) ?_
        refine a_on 15 rfl (by kernel_rfl) 34 rfl (congrArg Value.bool (decide_eq_false h39)) (fun w_ h_ => o_fieldAddr (k := 1) (fun _ => by kernel_rfl) rfl ⟨rfl, rfl⟩) ?_
        refine a_on 16 rfl (by kernel_rfl) 34 rfl (congrArg Value.bool (decide_eq_false h39)) (fun w_ h_ => o_load1 (v := (.int .i64 gsn)) Tryz.underlying3 rfl rfl h_ (seg_sub 0 rfl) (CellsAt.one rfl) ⟨rfl, rfl⟩) ?_
        have hH40 : Has E w32 [[Hp.one b9 (.cells #[(.int .i64 no), (.int .i64 gsn), v_l] 36 (0, 0))]] := (hH36.front 3 rfl).first 1 rfl
        refine a_done (by kernel_rfl) hH40 ?_
        refine r_on 17 rfl (by kernel_rfl) 34 rfl (congrArg Value.bool (decide_eq_false h39)) (o_neq (a := g) (b := gsn) rfl rfl ?_)
        refine r_op 18 rfl (by kernel_rfl) (o_pick_f (u := (.bool (decide (g ≠ gsn)))) ((rfl : _ = _).trans (congrArg Value.bool (decide_eq_false h39))) rfl ?_)
        refine r_op 19 rfl (by kernel_rfl) (o_assign (v := (.bool (decide (g ≠ gsn)))) rfl ?_)
        refine Rest.done (by kernel_rfl) ?_
        refine t_norm (hK28 _ _ ?_)
        refine c_cond rfl (fun h41 => ?_) (fun h41 => ?_)
        · -- g ≠ gsn
          exfalso; omega
        · -- not: g ≠ gsn
          refine wp_seq_k fun K42 hK42 => ?_
          refine c_region ?_
          refine s_op (o_move (v := (.pointer (some ⟨b19, 0, none⟩))) rfl ?_)
          refine s_op (o_nilCheck rfl ?_)
          refine s_op (o_fieldAddr (k := 3) (fun _ => by kernel_rfl) rfl ?_)
          refine s_op (o_load1 (v := (.bool f.dirty)) Tryz.underlying4 rfl rfl hH36 (seg_sub 0 rfl) (CellsAt.one rfl) ?_)
          refine s_op (o_not rfl ?_)
          refine s_op (o_assign (v := (.bool (!f.dirty))) rfl ?_)
          refine s_nil ?_
          refine t_norm (hK42 _ _ ?_)
          refine c_condb rfl (fun h43 => ?_) (fun h43 => ?_)
          · -- !f.dirty
            have h43_n : f.dirty = false := by first | simpa using h43 | exact Bool.of_not_eq_true (fun g_ => by rw [g_] at h43; cases h43)
            refine c_region ?_
            refine s_op (o_move (v := (.pointer (some ⟨b19, 0, none⟩))) rfl ?_)
            refine s_op (o_move (v := (.pointer (some ⟨b19, 0, none⟩))) rfl ?_)
            refine s_op (o_move (v := (.int .i64 g)) rfl ?_)
            refine s_op (o_nilCheck rfl ?_)
            refine s_op (o_fieldAddr (k := 3) (fun _ => by kernel_rfl) rfl ?_)
            refine s_eff (o_store1 (c' := #[(.int .i64 f.no), (.int .i64 f.gsn), x33, (.bool true), (.int .i64 f.first), (.int .i64 f.pins)]) ti4 rfl rfl rfl (by simp) rfl (hH36.front 0 rfl) fun w44 hH45 => ?_)
            refine s_op (o_nilCheck rfl ?_)
            refine s_op (o_fieldAddr (k := 4) (fun _ => by kernel_rfl) rfl ?_)
            refine s_eff (o_store1 (c' := #[(.int .i64 f.no), (.int .i64 f.gsn), x33, (.bool true), (.int .i64 g), (.int .i64 f.pins)]) ti3 rfl rfl rfl (by simp) rfl (hH45.front 0 rfl) fun w46 hH47 => ?_)
            refine s_nil ?_
            refine b_norm ?_
            refine t_norm (hK26 _ _ ?_)
            refine wp_seq_k fun K48 hK48 => ?_
            refine c_region ?_
            refine s_op (o_move (v := (.pointer (some ⟨b19, 0, none⟩))) rfl ?_)
            refine s_op (o_loadN (cs := [(.int .i64 no), (.int .i64 gsn), v_l]) Tryz.underlying36 rfl ti36 rfl hH47 (seg_sub 3 rfl) (CellsAt.one rfl) ?_)
            refine s_op (o_callf (vs := #[(.agg #[(.int .i64 no), (.int .i64 gsn), v_l])]) ca76 rfl (args1 rfl) (copied_c (no := no) (gsn := gsn) (l := l) hH47.all (h_l.mono (seg_sub 6 rfl)) (by first | omega | (simp only []; omega) | (simp; done) | (simp; omega))) ?_)
            rintro _ w54 ⟨v49, s50, rfl, ho51, hX52⟩
            refine ⟨_, rfl, ?_⟩
            have hH53 : Has E w54 [s50, [Hp.one b19 (.cells #[(.int .i64 f.no), (.int .i64 f.gsn), x33, (.bool true), (.int .i64 g), (.int .i64 f.pins)] 126 (0, 0))], s34, sr22, [Hp.one b9 (.cells #[(.int .i64 no), (.int .i64 gsn), v_l] 36 (0, 0))], [Hp.one pl (.cells #[(.pointer (some ⟨x1, 0, none⟩)), (.int .i64 v.room), (.map (some x2))] 81 (0, 0))], s3, R] := hX52.of_all1
            refine s_op (o_nilCheck rfl ?_)
            refine s_op (o_fieldAddr (k := 0) (fun _ => by kernel_rfl) rfl ?_)
            refine s_eff (o_storeN (vs := [(.int .i64 no), (.int .i64 gsn), v49]) (c' := #[(.int .i64 no), (.int .i64 gsn), v49, (.bool true), (.int .i64 g), (.int .i64 f.pins)]) ti36 rfl rfl rfl rfl (by intro u hu; simp only [List.mem_cons, List.not_mem_nil, or_false] at hu; rcases hu with rfl | rfl | rfl <;> first | rfl | exact ho51.one) (by simp) (by kernel_rfl) (hH53.front 1 rfl) fun w55 hH56 => ?_)
            refine s_nil ?_
            refine t_norm (hK48 _ _ ?_)
            refine wp_seq_k fun K57 hK57 => ?_
            refine c_region ?_
            refine s_op (o_assign (v := (.int .i64 0)) rfl ?_)
            refine s_nil ?_
            refine t_norm (hK57 _ _ ?_)
            refine wp_ret ?_
            refine c_ret1 Tryz.results37  (v := (.int .i64 0)) rfl ?_
            have hH58 : Has E w55 [([Hp.one b19 (.cells #[(.int .i64 no), (.int .i64 gsn), v49, (.bool true), (.int .i64 g), (.int .i64 f.pins)] 126 (0, 0))] ++ s50), s34, sr22, [Hp.one b9 (.cells #[(.int .i64 no), (.int .i64 gsn), v_l] 36 (0, 0))], [Hp.one pl (.cells #[(.pointer (some ⟨x1, 0, none⟩)), (.int .i64 v.room), (.map (some x2))] 81 (0, 0))], s3, R] := Has.cl2 ((hH56.front 1 rfl).front 1 rfl)
            have hd59 : FrmAt b19 ([Hp.one b19 (.cells #[(.int .i64 no), (.int .i64 gsn), v49, (.bool true), (.int .i64 g), (.int .i64 f.pins)] 126 (0, 0))] ++ s50) (⟨no, gsn, l, true, g, f.pins⟩ : Frm) := FrmAt.mk (v := (⟨no, gsn, l, true, g, f.pins⟩ : Frm)) ho51
            obtain ⟨sg60, hd61, hH62⟩ := DirHole.close hh24 hd59 ((hH58.front 2 rfl).front 1 rfl)
            have hd61 : DirAt iV FrmAt x2 sg60 (putB v.fr no (⟨no, gsn, l, true, g, f.pins⟩ : Frm)) := hd61
            have hH63 : Has E w55 [([Hp.one pl (.cells #[(.pointer (some ⟨x1, 0, none⟩)), (.int .i64 v.room), (.map (some x2))] 81 (0, 0))] ++ (s3 ++ sg60)), s34, [Hp.one b9 (.cells #[(.int .i64 no), (.int .i64 gsn), v_l] 36 (0, 0))], R] := Has.cl3 ((hH62.front 4 rfl).front 4 rfl)
            have hd64 : PolAt pl ([Hp.one pl (.cells #[(.pointer (some ⟨x1, 0, none⟩)), (.int .i64 v.room), (.map (some x2))] 81 (0, 0))] ++ (s3 ++ sg60)) (⟨v.tw, v.room, (putB v.fr no (⟨no, gsn, l, true, g, f.pins⟩ : Frm))⟩ : PolS) := PolAt.mk (v := (⟨v.tw, v.room, (putB v.fr no (⟨no, gsn, l, true, g, f.pins⟩ : Frm))⟩ : PolS)) f5 hd61
            have q65 : (⟨v.tw, v.room, putB v.fr no ⟨no, gsn, l, true, (if f.dirty = true then f.first else g), f.pins⟩⟩ : PolS) = (⟨v.tw, v.room, (putB v.fr no (⟨no, gsn, l, true, g, f.pins⟩ : Frm))⟩ : PolS) := by (have hd_ : f.dirty = false := by simpa using h43); rw [hd_]; rfl
            have hH66 : Has E w55 [([Hp.one pl (.cells #[(.pointer (some ⟨x1, 0, none⟩)), (.int .i64 v.room), (.map (some x2))] 81 (0, 0))] ++ (s3 ++ sg60)), R] := ((hH63.front 3 rfl).front 1 rfl).first 2 rfl
            exact ⟨_, rfl, (by rw [q65]; exact hd64), hH66⟩
          · -- not: !f.dirty
            have h43_n : f.dirty = true := by first | simpa using h43 | exact Bool.of_not_eq_false (fun g_ => by rw [g_] at h43; cases h43)
            refine wp_skip ?_
            refine b_norm ?_
            refine t_norm (hK26 _ _ ?_)
            refine wp_seq_k fun K67 hK67 => ?_
            refine c_region ?_
            refine s_op (o_move (v := (.pointer (some ⟨b19, 0, none⟩))) rfl ?_)
            refine s_op (o_loadN (cs := [(.int .i64 no), (.int .i64 gsn), v_l]) Tryz.underlying36 rfl ti36 rfl hH36 (seg_sub 3 rfl) (CellsAt.one rfl) ?_)
            refine s_op (o_callf (vs := #[(.agg #[(.int .i64 no), (.int .i64 gsn), v_l])]) ca76 rfl (args1 rfl) (copied_c (no := no) (gsn := gsn) (l := l) hH36.all (h_l.mono (seg_sub 6 rfl)) (by first | omega | (simp only []; omega) | (simp; done) | (simp; omega))) ?_)
            rintro _ w73 ⟨v68, s69, rfl, ho70, hX71⟩
            refine ⟨_, rfl, ?_⟩
            have hH72 : Has E w73 [s69, [Hp.one b19 (.cells #[(.int .i64 f.no), (.int .i64 f.gsn), x33, (.bool f.dirty), (.int .i64 f.first), (.int .i64 f.pins)] 126 (0, 0))], s34, sr22, [Hp.one b9 (.cells #[(.int .i64 no), (.int .i64 gsn), v_l] 36 (0, 0))], [Hp.one pl (.cells #[(.pointer (some ⟨x1, 0, none⟩)), (.int .i64 v.room), (.map (some x2))] 81 (0, 0))], s3, R] := hX71.of_all1
            refine s_op (o_nilCheck rfl ?_)
            refine s_op (o_fieldAddr (k := 0) (fun _ => by kernel_rfl) rfl ?_)
            refine s_eff (o_storeN (vs := [(.int .i64 no), (.int .i64 gsn), v68]) (c' := #[(.int .i64 no), (.int .i64 gsn), v68, (.bool f.dirty), (.int .i64 f.first), (.int .i64 f.pins)]) ti36 rfl rfl rfl rfl (by intro u hu; simp only [List.mem_cons, List.not_mem_nil, or_false] at hu; rcases hu with rfl | rfl | rfl <;> first | rfl | exact ho70.one) (by simp) (by kernel_rfl) (hH72.front 1 rfl) fun w74 hH75 => ?_)
            refine s_nil ?_
            refine t_norm (hK67 _ _ ?_)
            refine wp_seq_k fun K76 hK76 => ?_
            refine c_region ?_
            refine s_op (o_assign (v := (.int .i64 0)) rfl ?_)
            refine s_nil ?_
            refine t_norm (hK76 _ _ ?_)
            refine wp_ret ?_
            refine c_ret1 Tryz.results37  (v := (.int .i64 0)) rfl ?_
            have hH77 : Has E w74 [([Hp.one b19 (.cells #[(.int .i64 no), (.int .i64 gsn), v68, (.bool f.dirty), (.int .i64 f.first), (.int .i64 f.pins)] 126 (0, 0))] ++ s69), s34, sr22, [Hp.one b9 (.cells #[(.int .i64 no), (.int .i64 gsn), v_l] 36 (0, 0))], [Hp.one pl (.cells #[(.pointer (some ⟨x1, 0, none⟩)), (.int .i64 v.room), (.map (some x2))] 81 (0, 0))], s3, R] := Has.cl2 ((hH75.front 1 rfl).front 1 rfl)
            have hd78 : FrmAt b19 ([Hp.one b19 (.cells #[(.int .i64 no), (.int .i64 gsn), v68, (.bool f.dirty), (.int .i64 f.first), (.int .i64 f.pins)] 126 (0, 0))] ++ s69) (⟨no, gsn, l, f.dirty, f.first, f.pins⟩ : Frm) := FrmAt.mk (v := (⟨no, gsn, l, f.dirty, f.first, f.pins⟩ : Frm)) ho70
            obtain ⟨sg79, hd80, hH81⟩ := DirHole.close hh24 hd78 ((hH77.front 2 rfl).front 1 rfl)
            have hd80 : DirAt iV FrmAt x2 sg79 (putB v.fr no (⟨no, gsn, l, f.dirty, f.first, f.pins⟩ : Frm)) := hd80
            have hH82 : Has E w74 [([Hp.one pl (.cells #[(.pointer (some ⟨x1, 0, none⟩)), (.int .i64 v.room), (.map (some x2))] 81 (0, 0))] ++ (s3 ++ sg79)), s34, [Hp.one b9 (.cells #[(.int .i64 no), (.int .i64 gsn), v_l] 36 (0, 0))], R] := Has.cl3 ((hH81.front 4 rfl).front 4 rfl)
            have hd83 : PolAt pl ([Hp.one pl (.cells #[(.pointer (some ⟨x1, 0, none⟩)), (.int .i64 v.room), (.map (some x2))] 81 (0, 0))] ++ (s3 ++ sg79)) (⟨v.tw, v.room, (putB v.fr no (⟨no, gsn, l, f.dirty, f.first, f.pins⟩ : Frm))⟩ : PolS) := PolAt.mk (v := (⟨v.tw, v.room, (putB v.fr no (⟨no, gsn, l, f.dirty, f.first, f.pins⟩ : Frm))⟩ : PolS)) f5 hd80
            have q84 : (⟨v.tw, v.room, putB v.fr no ⟨no, gsn, l, true, (if f.dirty = true then f.first else g), f.pins⟩⟩ : PolS) = (⟨v.tw, v.room, (putB v.fr no (⟨no, gsn, l, f.dirty, f.first, f.pins⟩ : Frm))⟩ : PolS) := by (have hd_ : f.dirty = true := by simpa using h43); rw [hd_]; rfl
            have hH85 : Has E w74 [([Hp.one pl (.cells #[(.pointer (some ⟨x1, 0, none⟩)), (.int .i64 v.room), (.map (some x2))] 81 (0, 0))] ++ (s3 ++ sg79)), R] := ((hH82.front 3 rfl).front 1 rfl).first 2 rfl
            exact ⟨_, rfl, (by rw [q84]; exact hd83), hH85⟩
end Go.Q
namespace Go.Q
open Go.Proofs
set_option linter.unusedVariables false
set_option maxRecDepth 100000
attribute [local irreducible] wpList OK Code.wp
set_option maxHeartbeats 4000000 in
theorem flf_busy {E w : World} {R : List Hp} {fb : Nat} {sg_fb : List Hp} {v : Frm} {hb : Nat} {h : Int} {pb pl : Nat} {nb : Nat} {sg_nb : List Hp} {m : BxS} {mb : Nat} {rm : Int} {tb : Nat} {sg_tb : List Hp} {t : TwS}  (hH : Has E w [sg_fb, sg_nb, sg_tb, R]) (h_fb : FrmAt fb sg_fb v) (h_hb : CellsAt R hb 0 [(.int .i64 h)]) (h_pb : CellsAt R pb 0 [(.pointer (some ⟨pl, 0, none⟩))]) (h_nb : BxAt nb sg_nb m) (h_pl : CellsAt R pl 0 [(.pointer (some ⟨tb, 0, none⟩)), (.int .i64 rm), (.map (some mb))]) (h_tb : TwAt tb sg_tb t) (hd : v.dirty = true) (hbz : h < v.gsn) :
    Calls Tryz.prog 80 #[(.pointer (some ⟨fb, 0, none⟩)), (.pointer (some ⟨hb, 0, none⟩)), (.pointer (some ⟨pb, 0, none⟩)), (.pointer (some ⟨nb, 0, none⟩))] w fun e w' => ∃ (sg_fb' : List Hp) (sg_nb' : List Hp) (sg_tb' : List Hp), e = .returned (.int .i64 10) ∧ (FrmAt fb sg_fb' v) ∧ (BxAt nb sg_nb' m) ∧ (TwAt tb sg_tb' t) ∧ Has E w' [sg_fb', sg_nb', sg_tb', R] := by
  obtain ⟨x1, s2, rfl, f3⟩ := h_fb
  have hH4 : Has E w [[Hp.one fb (.cells #[(.int .i64 v.no), (.int .i64 v.gsn), x1, (.bool v.dirty), (.int .i64 v.first), (.int .i64 v.pins)] 126 (0, 0))], s2, sg_nb, sg_tb, R] := Has.op2 hH
  obtain rfl := (show sg_nb = _ from h_nb)
  have hH5 := (hH4.front 2 rfl)
  refine c_enter (args := [(.pointer (some ⟨fb, 0, none⟩)), (.pointer (some ⟨hb, 0, none⟩)), (.pointer (some ⟨pb, 0, none⟩)), (.pointer (some ⟨nb, 0, none⟩))]) Tryz.func80 rfl Tryz.ntmps80 (by simp) ?_
  refine wp_seq_k fun K6 hK6 => ?_
  refine c_region ?_
  refine s_op (o_assign (v := (.int .i64 0)) rfl ?_)
  refine s_nil ?_
  refine t_norm (hK6 _ _ ?_)
  refine wp_seq_k fun K7 hK7 => ?_
  refine wp_block ?_
  refine wp_seq_k fun K8 hK8 => ?_
  refine c_region ?_
  refine s_op (o_move (v := (.pointer (some ⟨fb, 0, none⟩))) rfl ?_)
  refine s_op (o_nilCheck rfl ?_)
  refine s_op (o_fieldAddr (k := 3) (fun _ => by kernel_rfl) rfl ?_)
  refine s_op (o_load1 (v := (.bool v.dirty)) Tryz.underlying4 rfl rfl hH5 (seg_sub 1 rfl) (CellsAt.one rfl) ?_)
  refine s_op (o_not rfl ?_)
  refine s_op (o_assign (v := (.bool (!v.dirty))) rfl ?_)
  refine s_nil ?_
  refine t_norm (hK8 _ _ ?_)
  refine c_condb rfl (fun h9 => ?_) (fun h9 => ?_)
  · -- !v.dirty
    have h9_n : v.dirty = false := by first | simpa using h9 | exact Bool.of_not_eq_true (fun g_ => by rw [g_] at h9; cases h9)
    exact absurd h9 (by rw [hd]; decide)
  · -- not: !v.dirty
    have h9_n : v.dirty = true := by first | simpa using h9 | exact Bool.of_not_eq_false (fun g_ => by rw [g_] at h9; cases h9)
    refine wp_seq_k fun K10 hK10 => ?_
    refine Rest.region mixed (by kernel_rfl) ?_
    have hH11 : Has E { w with drawn := w.drawn + 1 } [[Hp.one nb (.cells #[(.int .i64 m.n)] 3 (0, 0))], [Hp.one fb (.cells #[(.int .i64 v.no), (.int .i64 v.gsn), x1, (.bool v.dirty), (.int .i64 v.first), (.int .i64 v.pins)] 126 (0, 0))], s2, sg_tb, R] := Has0.drew hH5 _
    refine Rest.phaseA (fun w_ => Has E w_ [[Hp.one fb (.cells #[(.int .i64 v.no), (.int .i64 v.gsn), x1, (.bool v.dirty), (.int .i64 v.first), (.int .i64 v.pins)] 126 (0, 0))], R]) 0 6 6 rfl (by decide) (by kernel_rfl) ?_
    refine a_op 0 rfl (by kernel_rfl) (fun w_ h_ => o_move (v := (.pointer (some ⟨fb, 0, none⟩))) rfl ⟨rfl, rfl⟩) ?_
    refine a_op 1 rfl (by kernel_rfl) (fun w_ h_ => o_nilCheck rfl ⟨rfl, rfl⟩) ?_
    refine a_op 2 rfl (by kernel_rfl) (fun w_ h_ => o_fieldAddr (k := 0) (fun _ => by kernel_rfl) rfl ⟨rfl, rfl⟩) ?_
    refine a_op 3 rfl (by kernel_rfl) (fun w_ h_ => o_fieldAddr (k := 1) (fun _ => by kernel_rfl) rfl ⟨rfl, rfl⟩) ?_
    refine a_op 4 rfl (by kernel_rfl) (fun w_ h_ => o_load1 (v := (.int .i64 v.gsn)) Tryz.underlying3 rfl rfl h_ (seg_sub 0 rfl) (CellsAt.one rfl) ⟨rfl, rfl⟩) ?_
    refine a_op 5 rfl (by kernel_rfl) (fun w_ h_ => o_load1 (v := (.int .i64 h)) Tryz.underlying3 rfl rfl h_ (seg_sub 1 rfl) h_hb ⟨rfl, rfl⟩) ?_
    have hH12 : Has E { w with drawn := w.drawn + 1 } [[Hp.one fb (.cells #[(.int .i64 v.no), (.int .i64 v.gsn), x1, (.bool v.dirty), (.int .i64 v.first), (.int .i64 v.pins)] 126 (0, 0))], R] := ((hH11.front 4 rfl).front 2 rfl).first 2 rfl
    refine a_done (by kernel_rfl) hH12 ?_
    refine r_op 6 rfl (by kernel_rfl) (o_gtr (a := v.gsn) (b := h) rfl rfl ?_)
    refine r_op 7 rfl (by kernel_rfl) (o_assign (v := (.bool (decide (h < v.gsn)))) rfl ?_)
    refine Rest.done (by kernel_rfl) ?_
    refine t_norm (hK10 _ _ ?_)
    refine c_cond rfl (fun h13 => ?_) (fun h13 => ?_)
    · -- h < v.gsn
      refine wp_seq_k fun K14 hK14 => ?_
      refine c_region ?_
      refine s_op (o_assign (v := (.int .i64 10)) rfl ?_)
      refine s_nil ?_
      refine t_norm (hK14 _ _ ?_)
      refine wp_ret ?_
      refine b_ret (t_ret (c_ret1 Tryz.results80  (v := (.int .i64 10)) rfl ?_))
      have hH15 : Has E { w with drawn := w.drawn + 1 } [([Hp.one fb (.cells #[(.int .i64 v.no), (.int .i64 v.gsn), x1, (.bool v.dirty), (.int .i64 v.first), (.int .i64 v.pins)] 126 (0, 0))] ++ s2), [Hp.one nb (.cells #[(.int .i64 m.n)] 3 (0, 0))], sg_tb, R] := Has.cl2 ((hH11.front 2 rfl).front 2 rfl)
      have hd16 : FrmAt fb ([Hp.one fb (.cells #[(.int .i64 v.no), (.int .i64 v.gsn), x1, (.bool v.dirty), (.int .i64 v.first), (.int .i64 v.pins)] 126 (0, 0))] ++ s2) v := FrmAt.mk (v := v) f3
      have hd18 : BxAt nb [Hp.one nb (.cells #[(.int .i64 m.n)] 3 (0, 0))] m := rfl
      exact ⟨_, _, _, rfl, hd16, hd18, h_tb, hH15⟩
    · -- not: h < v.gsn
      exfalso; omega
set_option maxHeartbeats 4000000 in
theorem flf_ok {E w : World} {R : List Hp} {fb : Nat} {sg_fb : List Hp} {v : Frm} {hb : Nat} {h : Int} {pb pl : Nat} {nb : Nat} {sg_nb : List Hp} {m : BxS} {mb : Nat} {rm : Int} {tb : Nat} {sg_tb : List Hp} {t : TwS} {kk : Nat} (hH : Has E w [sg_fb, sg_nb, sg_tb, R]) (h_fb : FrmAt fb sg_fb v) (h_hb : CellsAt R hb 0 [(.int .i64 h)]) (h_pb : CellsAt R pb 0 [(.pointer (some ⟨pl, 0, none⟩))]) (h_nb : BxAt nb sg_nb m) (h_pl : CellsAt R pl 0 [(.pointer (some ⟨tb, 0, none⟩)), (.int .i64 rm), (.map (some mb))]) (h_tb : TwAt tb sg_tb t) (hg : CellsAt R 1 0 nibV) (hd : v.dirty = true) (hle : v.gsn ≤ h) (hs0 : (st1 t.1 t.2 (pgF v)).1 = 0) (hmm : m.n + 1 ≤ 1000000 ∧ 0 ≤ m.n) (hok : TwOk t) (hfw : Few t.1.p kk) (hkk : kk ≤ 700000) :
    Calls Tryz.prog 80 #[(.pointer (some ⟨fb, 0, none⟩)), (.pointer (some ⟨hb, 0, none⟩)), (.pointer (some ⟨pb, 0, none⟩)), (.pointer (some ⟨nb, 0, none⟩))] w fun e w' => ∃ (sg_fb' : List Hp) (sg_nb' : List Hp) (sg_tb' : List Hp), e = .returned (.int .i64 0) ∧ (FrmAt fb sg_fb' (⟨v.no, v.gsn, v.cells, false, v.first, v.pins⟩ : Frm)) ∧ (BxAt nb sg_nb' (⟨m.n + 1⟩ : BxS)) ∧ (TwAt tb sg_tb' ((st1 t.1 t.2 (pgF v)).2, t.2)) ∧ Has E w' [sg_fb', sg_nb', sg_tb', R] := by
  obtain ⟨x1, s2, rfl, f3⟩ := h_fb
  have hH4 : Has E w [[Hp.one fb (.cells #[(.int .i64 v.no), (.int .i64 v.gsn), x1, (.bool v.dirty), (.int .i64 v.first), (.int .i64 v.pins)] 126 (0, 0))], s2, sg_nb, sg_tb, R] := Has.op2 hH
  obtain rfl := (show sg_nb = _ from h_nb)
  have hH5 := (hH4.front 2 rfl)
  refine c_enter (args := [(.pointer (some ⟨fb, 0, none⟩)), (.pointer (some ⟨hb, 0, none⟩)), (.pointer (some ⟨pb, 0, none⟩)), (.pointer (some ⟨nb, 0, none⟩))]) Tryz.func80 rfl Tryz.ntmps80 (by simp) ?_
  refine wp_seq_k fun K6 hK6 => ?_
  refine c_region ?_
  refine s_op (o_assign (v := (.int .i64 0)) rfl ?_)
  refine s_nil ?_
  refine t_norm (hK6 _ _ ?_)
  refine wp_seq_k fun K7 hK7 => ?_
  refine wp_block ?_
  refine wp_seq_k fun K8 hK8 => ?_
  refine c_region ?_
  refine s_op (o_move (v := (.pointer (some ⟨fb, 0, none⟩))) rfl ?_)
  refine s_op (o_nilCheck rfl ?_)
  refine s_op (o_fieldAddr (k := 3) (fun _ => by kernel_rfl) rfl ?_)
  refine s_op (o_load1 (v := (.bool v.dirty)) Tryz.underlying4 rfl rfl hH5 (seg_sub 1 rfl) (CellsAt.one rfl) ?_)
  refine s_op (o_not rfl ?_)
  refine s_op (o_assign (v := (.bool (!v.dirty))) rfl ?_)
  refine s_nil ?_
  refine t_norm (hK8 _ _ ?_)
  refine c_condb rfl (fun h9 => ?_) (fun h9 => ?_)
  · -- !v.dirty
    have h9_n : v.dirty = false := by first | simpa using h9 | exact Bool.of_not_eq_true (fun g_ => by rw [g_] at h9; cases h9)
    exact absurd h9 (by rw [hd]; decide)
  · -- not: !v.dirty
    have h9_n : v.dirty = true := by first | simpa using h9 | exact Bool.of_not_eq_false (fun g_ => by rw [g_] at h9; cases h9)
    refine wp_seq_k fun K10 hK10 => ?_
    refine Rest.region mixed (by kernel_rfl) ?_
    have hH11 : Has E { w with drawn := w.drawn + 1 } [[Hp.one nb (.cells #[(.int .i64 m.n)] 3 (0, 0))], [Hp.one fb (.cells #[(.int .i64 v.no), (.int .i64 v.gsn), x1, (.bool v.dirty), (.int .i64 v.first), (.int .i64 v.pins)] 126 (0, 0))], s2, sg_tb, R] := Has0.drew hH5 _
    refine Rest.phaseA (fun w_ => Has E w_ [[Hp.one fb (.cells #[(.int .i64 v.no), (.int .i64 v.gsn), x1, (.bool v.dirty), (.int .i64 v.first), (.int .i64 v.pins)] 126 (0, 0))], R]) 0 6 6 rfl (by decide) (by kernel_rfl) ?_
    refine a_op 0 rfl (by kernel_rfl) (fun w_ h_ => o_move (v := (.pointer (some ⟨fb, 0, none⟩))) rfl ⟨rfl, rfl⟩) ?_
    refine a_op 1 rfl (by kernel_rfl) (fun w_ h_ => o_nilCheck rfl ⟨rfl, rfl⟩) ?_
    refine a_op 2 rfl (by kernel_rfl) (fun w_ h_ => o_fieldAddr (k := 0) (fun _ => by kernel_rfl) rfl ⟨rfl, rfl⟩) ?_
    refine a_op 3 rfl (by kernel_rfl) (fun w_ h_ => o_fieldAddr (k := 1) (fun _ => by kernel_rfl) rfl ⟨rfl, rfl⟩) ?_
    refine a_op 4 rfl (by kernel_rfl) (fun w_ h_ => o_load1 (v := (.int .i64 v.gsn)) Tryz.underlying3 rfl rfl h_ (seg_sub 0 rfl) (CellsAt.one rfl) ⟨rfl, rfl⟩) ?_
    refine a_op 5 rfl (by kernel_rfl) (fun w_ h_ => o_load1 (v := (.int .i64 h)) Tryz.underlying3 rfl rfl h_ (seg_sub 1 rfl) h_hb ⟨rfl, rfl⟩) ?_
    have hH12 : Has E { w with drawn := w.drawn + 1 } [[Hp.one fb (.cells #[(.int .i64 v.no), (.int .i64 v.gsn), x1, (.bool v.dirty), (.int .i64 v.first), (.int .i64 v.pins)] 126 (0, 0))], R] := ((hH11.front 4 rfl).front 2 rfl).first 2 rfl
    refine a_done (by kernel_rfl) hH12 ?_
    refine r_op 6 rfl (by kernel_rfl) (o_gtr (a := v.gsn) (b := h) rfl rfl ?_)
    refine r_op 7 rfl (by kernel_rfl) (o_assign (v := (.bool (decide (h < v.gsn)))) rfl ?_)
    refine Rest.done (by kernel_rfl) ?_
    refine t_norm (hK10 _ _ ?_)
    refine c_cond rfl (fun h13 => ?_) (fun h13 => ?_)
    · -- h < v.gsn
      exfalso; omega
    · -- not: h < v.gsn
      refine wp_skip ?_
      refine b_norm ?_
      refine t_norm (hK7 _ _ ?_)
      refine wp_seq_k fun K14 hK14 => ?_
      refine Rest.region mixed (by kernel_rfl) ?_
      have hH15 : Has E { { w with drawn := w.drawn + 1 } with drawn := { w with drawn := w.drawn + 1 }.drawn + 1 } [[Hp.one nb (.cells #[(.int .i64 m.n)] 3 (0, 0))], [Hp.one fb (.cells #[(.int .i64 v.no), (.int .i64 v.gsn), x1, (.bool v.dirty), (.int .i64 v.first), (.int .i64 v.pins)] 126 (0, 0))], s2, sg_tb, R] := Has0.drew hH11 _
      refine Rest.phaseA (fun w_ => Has E w_ [[Hp.one fb (.cells #[(.int .i64 v.no), (.int .i64 v.gsn), x1, (.bool v.dirty), (.int .i64 v.first), (.int .i64 v.pins)] 126 (0, 0))], R]) 0 9 9 rfl (by decide) (by kernel_rfl) ?_
      refine a_op 0 rfl (by kernel_rfl) (fun w_ h_ => o_load1 (v := (.pointer (some ⟨pl, 0, none⟩))) Tryz.underlying65 rfl rfl h_ (seg_sub 1 rfl) h_pb ⟨rfl, rfl⟩) ?_
      refine a_op 1 rfl (by kernel_rfl) (fun w_ h_ => o_nilCheck rfl ⟨rfl, rfl⟩) ?_
      refine a_op 2 rfl (by kernel_rfl) (fun w_ h_ => o_fieldAddr (k := 0) (fun _ => by kernel_rfl) rfl ⟨rfl, rfl⟩) ?_
      refine a_op 3 rfl (by kernel_rfl) (fun w_ h_ => o_load1 (v := (.pointer (some ⟨tb, 0, none⟩))) Tryz.underlying25 rfl rfl h_ (seg_sub 1 rfl) (CellsAt.field (k := 0) (ds := [(.pointer (some ⟨tb, 0, none⟩))]) h_pl rfl) ⟨rfl, rfl⟩) ?_
      refine a_op 4 rfl (by kernel_rfl) (fun w_ h_ => o_move (v := (.pointer (some ⟨fb, 0, none⟩))) rfl ⟨rfl, rfl⟩) ?_
      refine a_op 5 rfl (by kernel_rfl) (fun w_ h_ => o_nilCheck rfl ⟨rfl, rfl⟩) ?_
      refine a_op 6 rfl (by kernel_rfl) (fun w_ h_ => o_fieldAddr (k := 0) (fun _ => by kernel_rfl) rfl ⟨rfl, rfl⟩) ?_
      refine a_op 7 rfl (by kernel_rfl) (fun w_ h_ => o_loadN (cs := [(.int .i64 v.no), (.int .i64 v.gsn), x1]) Tryz.underlying36 rfl ti36 rfl h_ (seg_sub 0 rfl) (CellsAt.one rfl) ⟨rfl, rfl⟩) ?_
      have hH16 : Has E { { w with drawn := w.drawn + 1 } with drawn := { w with drawn := w.drawn + 1 }.drawn + 1 } [[Hp.one fb (.cells #[(.int .i64 v.no), (.int .i64 v.gsn), x1, (.bool v.dirty), (.int .i64 v.first), (.int .i64 v.pins)] 126 (0, 0))], R] := ((hH15.front 4 rfl).front 2 rfl).first 2 rfl
      refine a_w 8 rfl (by kernel_rfl) hH16 (o_buildSlice (ps := #[(0, (.agg #[(.int .i64 v.no), (.int .i64 v.gsn), x1]))]) (cells := #[(.int .i64 v.no), (.int .i64 v.gsn), x1]) Tryz.underlying31 ti36 (by decide) (parts1 rfl) (by kernel_rfl) hH15 fun b17 w18 hH19 => ?_)
      have hH20 : Has E w18 [[Hp.one fb (.cells #[(.int .i64 v.no), (.int .i64 v.gsn), x1, (.bool v.dirty), (.int .i64 v.first), (.int .i64 v.pins)] 126 (0, 0))], R] := ((hH19.front 5 rfl).front 3 rfl).first 2 rfl
      refine a_done (by kernel_rfl) hH20 ?_
      refine r_op 9 rfl (by kernel_rfl) (o_callf (vs := #[(.pointer (some ⟨tb, 0, none⟩)), (.slice (some ⟨b17, 0, none⟩) 1 1)]) ca18 rfl (args2 rfl rfl) (tsw_c (v := t) (hH19.front 4 rfl).all1 h_tb hok hfw (by omega) (hg.mono (seg_sub 4 rfl)) (a := ((v.no, v.gsn, x1, v.cells) : Pg)) ((sl_litF (f := pgC) (l := [((v.no, v.gsn, x1, v.cells) : Pg)]) pgC_len rfl rfl (by simp)).mono (seg_sub 0 rfl)) (c_in f3 (seg_sub 3 rfl))) ?_)
      rintro _ w25 ⟨sg21, rfl, hd22, hX23⟩
      refine ⟨_, rfl, ?_⟩
      have hH24 : Has E w25 [sg21, [Hp.one b17 (.cells #[(.int .i64 v.no), (.int .i64 v.gsn), x1] 36 (0, 0))], [Hp.one nb (.cells #[(.int .i64 m.n)] 3 (0, 0))], [Hp.one fb (.cells #[(.int .i64 v.no), (.int .i64 v.gsn), x1, (.bool v.dirty), (.int .i64 v.first), (.int .i64 v.pins)] 126 (0, 0))], s2, R] := hX23.of_all1
      refine r_op 10 rfl (by kernel_rfl) (o_assign (v := (.int .i64 ((st1 t.1 t.2 (pgF v)).1))) rfl ?_)
      refine Rest.done (by kernel_rfl) ?_
      refine t_norm (hK14 _ _ ?_)
      refine wp_seq_k fun K26 hK26 => ?_
      refine wp_seq_k fun K27 hK27 => ?_
      refine c_region ?_
      refine s_op (o_move (v := (.int .i64 ((st1 t.1 t.2 (pgF v)).1))) rfl ?_)
      refine s_op (o_eql (a := (st1 t.1 t.2 (pgF v)).1) (b := 0) rfl rfl ?_)
      refine s_nil ?_
      refine t_norm (hK27 _ _ ?_)
      refine c_cond rfl (fun h28 => ?_) (fun h28 => ?_)
      · -- (st1 t.1 t.2 (pgF v)).1 = 0
        refine wp_seq_k fun K29 hK29 => ?_
        refine c_region ?_
        refine s_op (o_move (v := (.pointer (some ⟨fb, 0, none⟩))) rfl ?_)
        refine s_op (o_nilCheck rfl ?_)
        refine s_op (o_fieldAddr (k := 3) (fun _ => by kernel_rfl) rfl ?_)
        refine s_eff (o_store1 (c' := #[(.int .i64 v.no), (.int .i64 v.gsn), x1, (.bool false), (.int .i64 v.first), (.int .i64 v.pins)]) ti4 rfl rfl rfl (by simp) rfl (hH24.front 3 rfl) fun w30 hH31 => ?_)
        refine s_nil ?_
        refine t_norm (hK29 _ _ ?_)
        refine c_region ?_
        refine s_op (o_load1 (v := (.int .i64 m.n)) Tryz.underlying3 rfl rfl hH31 (seg_sub 3 rfl) (CellsAt.one rfl) ?_)
        refine s_op (o_add (a := m.n) (b := 1) rfl rfl (w64 (by omega) (by omega)) ?_)
        refine s_eff (o_store1 (c' := #[(.int .i64 (m.n + 1))]) ti3 rfl rfl rfl (by simp) rfl (hH31.front 3 rfl) fun w32 hH33 => ?_)
        refine s_nil ?_
        refine t_norm (hK26 _ _ ?_)
        refine wp_seq_k fun K34 hK34 => ?_
        refine c_region ?_
        refine s_op (o_move (v := (.int .i64 ((st1 t.1 t.2 (pgF v)).1))) rfl ?_)
        refine s_op (o_assign (v := (.int .i64 ((st1 t.1 t.2 (pgF v)).1))) rfl ?_)
        refine s_nil ?_
        refine t_norm (hK34 _ _ ?_)
        refine wp_ret ?_
        refine c_ret1 Tryz.results80  (v := (.int .i64 ((st1 t.1 t.2 (pgF v)).1))) rfl ?_
        have q35 : 0 = (st1 t.1 t.2 (pgF v)).1 := by first | rfl | exact hs0.symm
        have hH36 : Has E w32 [([Hp.one fb (.cells #[(.int .i64 v.no), (.int .i64 v.gsn), x1, (.bool false), (.int .i64 v.first), (.int .i64 v.pins)] 126 (0, 0))] ++ s2), [Hp.one nb (.cells #[(.int .i64 (m.n + 1))] 3 (0, 0))], sg21, [Hp.one b17 (.cells #[(.int .i64 v.no), (.int .i64 v.gsn), x1] 36 (0, 0))], R] := Has.cl2 ((hH33.front 4 rfl).front 2 rfl)
        have hd37 : FrmAt fb ([Hp.one fb (.cells #[(.int .i64 v.no), (.int .i64 v.gsn), x1, (.bool false), (.int .i64 v.first), (.int .i64 v.pins)] 126 (0, 0))] ++ s2) (⟨v.no, v.gsn, v.cells, false, v.first, v.pins⟩ : Frm) := FrmAt.mk (v := (⟨v.no, v.gsn, v.cells, false, v.first, v.pins⟩ : Frm)) f3
        have hd39 : BxAt nb [Hp.one nb (.cells #[(.int .i64 (m.n + 1))] 3 (0, 0))] (⟨m.n + 1⟩ : BxS) := rfl
        have hH40 : Has E w32 [([Hp.one fb (.cells #[(.int .i64 v.no), (.int .i64 v.gsn), x1, (.bool false), (.int .i64 v.first), (.int .i64 v.pins)] 126 (0, 0))] ++ s2), [Hp.one nb (.cells #[(.int .i64 (m.n + 1))] 3 (0, 0))], sg21, R] := ((((hH36.front 4 rfl).front 3 rfl).front 3 rfl).front 3 rfl).first 4 rfl
        exact ⟨_, _, _, by rw [q35], hd37, hd39, hd22, hH40⟩
      · -- not: (st1 t.1 t.2 (pgF v)).1 = 0
        exact absurd hs0 h28
end Go.Q
namespace Go.Q
open Go.Proofs Go.Shelf
def kyf_ren : Go.Shelf.Ren := ⟨fun | 7 => 87 | 10 => 114 | n => n, fun | 23 => 79 | 26 => 3 | 3 => 123 | 28 => 112 | 0 => 0 | 27 => 111 | 33 => 117 | 4 => 4 | n => n, fun | n => n⟩
theorem kyf : Go.Proofs.SlLaysZI.n7 Tryz.prog kyf_ren := {
  mixed := by kernel_rfl
  f7 := ⟨Tryz.f87.name, by decide, Tryz.func87.trans (congrArg some (by kernel_rfl))⟩
  f10 := ⟨Tryz.f114.name, by decide, Tryz.func114.trans (congrArg some (by kernel_rfl))⟩
  t0 := Tryz.underlying0
  a0 := Tryz.isAgg0
  z0 := Tryz.sizeOf0
  v0 := Tryz.zeroValue0
  t4 := Tryz.underlying4
  a4 := Tryz.isAgg4
  z4 := Tryz.sizeOf4
  v4 := Tryz.zeroValue4
  t23 := Tryz.underlying79
  a23 := Tryz.isAgg79
  z23 := Tryz.sizeOf79
  v23 := Tryz.zeroValue79
  t26 := Tryz.underlying3
  a26 := Tryz.isAgg3
  z26 := Tryz.sizeOf3
  v26 := Tryz.zeroValue3
  t27 := Tryz.underlying111
  a27 := Tryz.isAgg111
  z27 := Tryz.sizeOf111
  v27 := Tryz.zeroValue111
  t28 := Tryz.underlying112
  a28 := Tryz.isAgg112
  z28 := Tryz.sizeOf112
  v28 := Tryz.zeroValue112
  t33 := Tryz.underlying117
  a33 := Tryz.isAgg117
  z33 := Tryz.sizeOf117
  v33 := Tryz.zeroValue117 }
theorem fkeys_c {E w : World} {ss : List Hp} (H : Has E w [ss]) (mb : Nat) : Calls Tryz.prog 87 #[.map (some mb)] w fun e w' => ∃ b, e = .returned (.func (.func 114) #[] #[.pointer (some ⟨b, 0, none⟩)]) ∧ Has E w' [[Hp.one b (.cells #[.map (some mb)] 79 (0, 0))], ss] := by
  refine (callsIn_wide.1 (AnyZI.keys_in kyf Fence.wide 5 trivial rfl (some mb) w)).mono fun e w' ⟨he, hw⟩ => ⟨w.heap.size, he, ?_⟩
  rw [hw]
  exact H.alloc _
set_option maxRecDepth 100000 in
theorem MapV.ownsI {β : Type} {f : β → Value} {es : Array MapEntry} {c : Nat} {lo : List (Int × β)} (h : MapV iV f es c lo) {w : World} {b : Nat} (hb : w.heap[b]? = some (.map es c)) {k : TypeId} (hk : Tryz.prog.underlying k = some (.int .i64))
    (hw : ∀ p ∈ lo, (Lit.int .i64 p.1).wf = true) (hn : lo.length ≤ 1000000) : ∃ D : DataW Nat, w.ownsMap Tryz.prog k (fun _ => some (.lit (.bool true), [])) b lo.length D ∧ Maps.size D = lo.length ∧ (intKeys D).Perm (lo.map (·.1)) := by
  have hkey : ∀ x ∈ es.toList, ∃ p ∈ lo, x.key = .int .i64 p.1 := fun x hx => by
    have : x.key ∈ es.toList.map (·.key) := List.mem_map.2 ⟨x, hx, rfl⟩
    rw [h.keys] at this
    obtain ⟨p, hp, e⟩ := List.mem_map.1 this
    exact ⟨p, hp, e.symm⟩
  have hrd : ∀ x ∈ es.toList, ∃ p ∈ lo, x.key = .int .i64 p.1 ∧ Go.WideElems.rd (H := Nat) Tryz.prog k (fun _ => some (.lit (.bool true), [])) x = some (.int .i64 p.1, .lit (.bool true)) := fun x hx => by
    obtain ⟨p, hp, e⟩ := hkey x hx
    refine ⟨p, hp, e, ?_⟩
    unfold Go.WideElems.rd
    rw [e, Go.Maps.keyOf_int_mk hk (hw p hp)]; rfl
  have hsz := h.size
  refine ⟨.map ((es.toList.map (Go.WideElems.rg Tryz.prog k (fun _ => some (.lit (.bool true), [])))).foldr DataW.insert []), ⟨es, c, hb, ⟨by rw [hsz]; simp only [maxLen]; omega, h.2, fun x hx => by obtain ⟨p, _, _, e⟩ := hrd x hx; exact ⟨_, e⟩⟩, by omega, rfl⟩, ?_, ?_⟩
  · show List.length _ = _
    rw [(Go.WideShapes.sorted_perm _).length_eq, List.length_map]; simpa using hsz
  · show (List.map (fun p : Lit × DataW Nat => intOf p.1) _).Perm _
    refine ((Go.WideShapes.sorted_perm _).map _).trans ?_
    rw [List.map_map]
    have e1 : es.toList.map ((fun p : Lit × DataW Nat => intOf p.1) ∘ Go.WideElems.rg Tryz.prog k (fun _ => some (.lit (.bool true), []))) = es.toList.map (fun x => match x.key with | .int _ a => a | _ => 0) := List.map_congr_left fun x hx => by
      obtain ⟨p, _, e, g⟩ := hrd x hx
      show intOf (Go.WideElems.rg _ _ _ x).1 = _
      unfold Go.WideElems.rg
      rw [g, e]; rfl
    have e2 : es.toList.map (fun x => match x.key with | .int _ a => a | _ => 0) = lo.map (·.1) := by
      have := congrArg (List.map (fun v : Value => match v with | .int _ a => a | _ => (0 : Int))) h.keys
      rw [List.map_map, List.map_map] at this
      exact this
    rw [e1, e2]
theorem fsorted_c {β : Type} {E w : World} {R : List Hp} {b mb c : Nat} {es : Array MapEntry} {lo : List (Int × β)} {f : β → Value} (H : Has E w [[Hp.one b (.cells #[.map (some mb)] 79 (0, 0))], R]) (hmb : Hp.one mb (.map es c) ∈ R) (hm : MapV iV f es c lo)
    (hw : ∀ p ∈ lo, (Lit.int .i64 p.1).wf = true) (hn : lo.length ≤ 1000000) :
    Calls Tryz.prog 57 #[.func (.func 114) #[] #[.pointer (some ⟨b, 0, none⟩)]] w fun e w' => ∃ v hs, e = .returned v ∧ Own 3 1 v ((lo.map (·.1)).mergeSort (fun x y => decide (x ≤ y))).length (((lo.map (·.1)).mergeSort (fun x y => decide (x ≤ y))).map iV) hs ∧ Has E w' [hs, [Hp.one b (.cells #[.map (some mb)] 79 (0, 0))], R] := by
  have hb1 : w.heap[b]? = some (.cells #[.map (some mb)] 79 (0, 0)) := H.at (h := Hp.one b (.cells #[.map (some mb)] 79 (0, 0))) (by simp) (Hp.one_at _ _)
  have hb2 : w.heap[mb]? = some (.map es c) := H.at (h := Hp.one mb (.map es c)) (by simp [hmb]) (Hp.one_at _ _)
  obtain ⟨D, hown, hsz, hperm⟩ := hm.ownsI hb2 (k := 3) Tryz.underlying3 hw hn
  have hlt : b < w.heap.size := (Array.getElem?_eq_some_iff.1 hb1).1
  have hseq : SeqGives Fence.wide 2 Tryz.prog 114 #[.pointer (some ⟨b, 0, none⟩)] encZ (fun ss => ss.Perm (intKeys D)) (Maps.size D) w :=
    AnyZI.keys_gives (ρ := kyf_ren) { kyf with } Fence.wide _ trivial rfl (by omega) b mb lo.length D w hlt (by simp [World.cell?, hb1]) hown
  have hs := AnyZI.sorted_in stl Fence.wide 5 trivial trivial trivial trivial rfl (by omega) (srl_in _) (enters_of Tryz.func100 (by kernel_rfl) rfl) 114 #[.pointer (some ⟨b, 0, none⟩)] trivial (enters_of Tryz.func114 (by kernel_rfl) rfl) _ (Maps.size D) (by simp only [maxLen]; omega) (by omega) w hseq
  refine (callsIn_wide.1 hs).mono fun e w' ⟨v, ss, he, hp, hrow, _, hbl⟩ => ?_
  obtain ⟨hs', ho, hH⟩ := H.row hbl hrow
  have e1 : ss.mergeSort (fun x y => decide (x ≤ y)) = ((lo.map (·.1)).mergeSort (fun x y => decide (x ≤ y))) := mergeSort_of_perm_i (hp.trans hperm)
  have hl : ss.length = ((lo.map (·.1)).mergeSort (fun x y => decide (x ≤ y))).length := by rw [← e1, List.length_mergeSort]
  rw [e1, hl] at ho
  exact ⟨v, hs', he, ho, hH⟩
theorem fdir_c {σ : Type} {E w : World} {R : List Hp} {b mb : Nat} {Rd : List Hp → Nat → σ → Prop} {lo : List (Int × σ)} (H : Has E w [[Hp.one b (.cells #[.map (some mb)] 79 (0, 0))], R]) (hd : DirRd iV Rd R mb lo)
    (hw : ∀ p ∈ lo, (Lit.int .i64 p.1).wf = true) (hn : lo.length ≤ 1000000) :
    Calls Tryz.prog 57 #[.func (.func 114) #[] #[.pointer (some ⟨b, 0, none⟩)]] w fun e w' => ∃ v hs, e = .returned v ∧ Own 3 1 v ((lo.map (·.1)).mergeSort (fun x y => decide (x ≤ y))).length (((lo.map (·.1)).mergeSort (fun x y => decide (x ≤ y))).map iV) hs ∧ Has E w' [hs, [Hp.one b (.cells #[.map (some mb)] 79 (0, 0))], R] := by
  obtain ⟨es, c, L, h1, h2, _, rfl⟩ := hd
  rw [what_keys]
  refine fsorted_c H h1 h2 (fun p hp => ?_) (by have := congrArg List.length (what_keys L); simp only [List.length_map] at this; omega)
  have : p.1 ∈ (what L).map (·.1) := by rw [what_keys]; exact List.mem_map.2 ⟨p, hp, rfl⟩
  obtain ⟨q, hq, e⟩ := List.mem_map.1 this
  rw [← e]; exact hw q hq
end Go.Q
namespace Go.Q
open Go.Proofs
set_option linter.unusedVariables false
set_option maxRecDepth 100000
attribute [local irreducible] wpList OK Code.wp
set_option maxHeartbeats 4000000 in
theorem held_one {E w : World} {R : List Hp} {pl : Nat} {sg_pl : List Hp} {v : PolS} {k : Int} {f : Frm} (hH : Has E w [sg_pl, R]) (h_pl : PolAt pl sg_pl v) (hfr : v.fr = [(k, f)]) (hkw : ∀ p ∈ v.fr, (Lit.int .i64 p.1).wf = true) (hkn : v.fr.length ≤ 1000000) :
    Calls Tryz.prog 46 #[(.pointer (some ⟨pl, 0, none⟩))] w fun e w' => ∃ (v1' : Value) (s2' : List Hp) (sg_pl' : List Hp), e = .returned v1' ∧ (Own 3 1 v1' [k].length ([k].map iV) s2') ∧ (PolAt pl sg_pl' v) ∧ Has E w' [s2', sg_pl', R] := by
  obtain ⟨x1, x2, s3, s4, rfl, f5, f6⟩ := h_pl
  have hH7 : Has E w [[Hp.one pl (.cells #[(.pointer (some ⟨x1, 0, none⟩)), (.int .i64 v.room), (.map (some x2))] 81 (0, 0))], s3, s4, R] := Has.op3 hH
  refine c_enter (args := [(.pointer (some ⟨pl, 0, none⟩))]) Tryz.func46 rfl Tryz.ntmps46 (by simp) ?_
  refine wp_seq_k fun K8 hK8 => ?_
  refine c_region ?_
  refine s_op (o_assign (v := (.slice none 0 0)) rfl ?_)
  refine s_nil ?_
  refine t_norm (hK8 _ _ ?_)
  refine wp_seq_k fun K9 hK9 => ?_
  refine wp_seq_k fun K10 hK10 => ?_
  refine c_region ?_
  refine s_op (o_move (v := (.pointer (some ⟨pl, 0, none⟩))) rfl ?_)
  refine s_op (o_pnil (p := some _) Tryz.underlying65 rfl rfl ?_)
  refine s_nil ?_
  refine t_norm (hK10 _ _ ?_)
  refine c_false rfl rfl ?_
  refine wp_skip ?_
  refine t_norm (hK9 _ _ ?_)
  refine wp_seq_k fun K11 hK11 => ?_
  refine c_region ?_
  refine s_op (o_move (v := (.pointer (some ⟨pl, 0, none⟩))) rfl ?_)
  refine s_op (o_nilCheck rfl ?_)
  refine s_op (o_fieldAddr (k := 2) (fun _ => by kernel_rfl) rfl ?_)
  refine s_op (o_load1 (v := (.map (some x2))) Tryz.underlying79 rfl rfl hH7 (seg_sub 0 rfl) (CellsAt.one rfl) ?_)
  refine s_op (o_callf (vs := #[(.map (some x2))]) ca87 rfl (args1 rfl) (fkeys_c hH7.all x2) ?_)
  rintro _ w15 ⟨b12, rfl, hX13⟩
  refine ⟨_, rfl, ?_⟩
  have hH14 : Has E w15 [[Hp.one b12 (.cells #[(.map (some x2))] 79 (0, 0))], [Hp.one pl (.cells #[(.pointer (some ⟨x1, 0, none⟩)), (.int .i64 v.room), (.map (some x2))] 81 (0, 0))], s3, s4, R] := hX13.of_all1
  refine s_op (o_callf (vs := #[(.func (.func 114) #[] #[.pointer (some ⟨b12, 0, none⟩)])]) ca57 rfl (args1 rfl) (fdir_c hH14.all1 (DirRd.mono (Rd := FrmRd) FrmRd.mono (DirAt.rd (Rd := FrmRd) FrmRd.mono FrmAt.rd f6) (seg_sub 2 rfl)) hkw hkn) ?_)
  rintro _ w21 ⟨v16, s17, rfl, ho18, hX19⟩
  refine ⟨_, rfl, ?_⟩
  have hH20 : Has E w21 [s17, [Hp.one b12 (.cells #[(.map (some x2))] 79 (0, 0))], [Hp.one pl (.cells #[(.pointer (some ⟨x1, 0, none⟩)), (.int .i64 v.room), (.map (some x2))] 81 (0, 0))], s3, s4, R] := hX19.of_all2
  refine s_op (o_assign (v := v16) rfl ?_)
  refine s_nil ?_
  refine t_norm (hK11 _ _ ?_)
  refine wp_ret ?_
  refine c_ret1 Tryz.results46  (v := v16) rfl ?_
  have q22 : [k] = (keysI v.fr) := by rw [hfr, keysI_one]
  have hH23 : Has E w21 [([Hp.one pl (.cells #[(.pointer (some ⟨x1, 0, none⟩)), (.int .i64 v.room), (.map (some x2))] 81 (0, 0))] ++ (s3 ++ s4)), s17, [Hp.one b12 (.cells #[(.map (some x2))] 79 (0, 0))], R] := Has.cl3 (((hH20.front 4 rfl).front 4 rfl).front 4 rfl)
  have hd24 : PolAt pl ([Hp.one pl (.cells #[(.pointer (some ⟨x1, 0, none⟩)), (.int .i64 v.room), (.map (some x2))] 81 (0, 0))] ++ (s3 ++ s4)) v := PolAt.mk (v := v) f5 f6
  have hH25 : Has E w21 [s17, ([Hp.one pl (.cells #[(.pointer (some ⟨x1, 0, none⟩)), (.int .i64 v.room), (.map (some x2))] 81 (0, 0))] ++ (s3 ++ s4)), R] := (((hH23.front 3 rfl).front 1 rfl).front 2 rfl).first 3 rfl
  exact ⟨_, _, _, rfl, (by rw [q22]; exact ho18), hd24, hH25⟩
set_option maxHeartbeats 4000000 in
theorem dirty_one {E w : World} {R : List Hp} {pl : Nat} {sg_pl : List Hp} {v : PolS} {k : Int} {f : Frm} (hH : Has E w [sg_pl, R]) (h_pl : PolAt pl sg_pl v) (hfr : v.fr = [(k, f)]) (hkw : ∀ p ∈ v.fr, (Lit.int .i64 p.1).wf = true) (hkn : v.fr.length ≤ 1000000) (hd : f.dirty = true) :
    Calls Tryz.prog 45 #[(.pointer (some ⟨pl, 0, none⟩))] w fun e w' => ∃ (v1' : Value) (s2' : List Hp) (sg_pl' : List Hp), e = .returned v1' ∧ (Own 128 2 v1' [(k, f.first)].length ([(k, f.first)].flatMap drC) s2') ∧ (PolAt pl sg_pl' v) ∧ Has E w' [s2', sg_pl', R] := by
  have hgk_ : getB v.fr k = some f := by rw [hfr, getB, if_pos rfl]
  obtain ⟨x1, x2, s3, s4, rfl, f5, f6⟩ := h_pl
  have hH7 : Has E w [[Hp.one pl (.cells #[(.pointer (some ⟨x1, 0, none⟩)), (.int .i64 v.room), (.map (some x2))] 81 (0, 0))], s3, s4, R] := Has.op3 hH
  refine c_enter (args := [(.pointer (some ⟨pl, 0, none⟩))]) Tryz.func45 rfl Tryz.ntmps45 (by simp) ?_
  refine wp_seq_k fun K8 hK8 => ?_
  refine c_region ?_
  refine s_op (o_assign (v := (.slice none 0 0)) rfl ?_)
  refine s_nil ?_
  refine t_norm (hK8 _ _ ?_)
  refine wp_seq_k fun K9 hK9 => ?_
  refine c_region ?_
  refine s_op (o_assign (v := (.slice none 0 0)) rfl ?_)
  refine s_nil ?_
  refine t_norm (hK9 _ _ ?_)
  refine wp_seq_k fun K10 hK10 => ?_
  refine wp_seq_k fun K11 hK11 => ?_
  refine c_region ?_
  refine s_op (o_move (v := (.pointer (some ⟨pl, 0, none⟩))) rfl ?_)
  have hH12 : Has E w [([Hp.one pl (.cells #[(.pointer (some ⟨x1, 0, none⟩)), (.int .i64 v.room), (.map (some x2))] 81 (0, 0))] ++ (s3 ++ s4)), R] := Has.cl3 (((hH7.front 2 rfl).front 2 rfl).front 2 rfl)
  have hd13 : PolAt pl ([Hp.one pl (.cells #[(.pointer (some ⟨x1, 0, none⟩)), (.int .i64 v.room), (.map (some x2))] 81 (0, 0))] ++ (s3 ++ s4)) v := PolAt.mk (v := v) f5 f6
  refine s_op (o_callf (vs := #[(.pointer (some ⟨pl, 0, none⟩))]) ca46 rfl (args1 rfl) (held_one (v := v) (k := k) (f := f) hH12.all1 hd13 hfr hkw hkn) ?_)
  rintro _ w21 ⟨v14, s15, sg17, rfl, ho16, hd18, hX19⟩
  refine ⟨_, rfl, ?_⟩
  have hH20 : Has E w21 [s15, sg17, R] := hX19.of_all2
  refine s_op (o_lenS Tryz.underlying40 rfl ho16.sl ?_)
  refine s_op (o_move (v := (.int .i64 0)) rfl ?_)
  refine s_nil ?_
  refine t_norm (hK11 _ _ ?_)
  refine wp_block ?_
  refine u_loop 3 (u_round ?_)
  refine wp_seq_k fun K22 hK22 => ?_
  refine c_region ?_
  refine s_op (o_lss (a := 0) (b := 1) rfl rfl ?_)
  refine s_nil ?_
  refine t_norm (hK22 _ _ ?_)
  refine wp_seq_k fun K23 hK23 => ?_
  refine c_true rfl rfl ?_
  refine wp_skip ?_
  refine t_norm (hK23 _ _ ?_)
  refine wp_seq_k fun K24 hK24 => ?_
  refine wp_block ?_
  refine wp_seq_k fun K25 hK25 => ?_
  refine c_region ?_
  refine s_op (o_index1 Tryz.underlying40 ti3 rfl ho16.sl rfl (by omega) (show [k][((0 : Int)).toNat]? = some k from rfl) fun b26 o27 hc28 => ?_)
  refine s_op (o_load1 (v := (.int .i64 k)) Tryz.underlying3 rfl rfl hH20 (seg_sub 0 rfl) hc28 ?_)
  refine s_op (o_assign (v := (.int .i64 k)) rfl ?_)
  refine s_nil ?_
  refine t_norm (hK25 _ _ ?_)
  refine wp_seq_k fun K29 hK29 => ?_
  refine c_region ?_
  refine s_op (o_move (v := (.pointer (some ⟨pl, 0, none⟩))) rfl ?_)
  refine s_op (o_nilCheck rfl ?_)
  obtain ⟨x30, x31, s32, s33, rfl, f34, f35⟩ := hd18
  have hH36 : Has E w21 [[Hp.one pl (.cells #[(.pointer (some ⟨x30, 0, none⟩)), (.int .i64 v.room), (.map (some x31))] 81 (0, 0))], s32, s33, s15, R] := Has.op3 (hH20.front 1 rfl)
  refine s_op (o_fieldAddr (k := 2) (fun _ => by kernel_rfl) rfl ?_)
  refine s_op (o_load1 (v := (.map (some x31))) Tryz.underlying79 rfl rfl hH36 (seg_sub 0 rfl) (CellsAt.one rfl) ?_)
  refine s_op (o_move (v := (.int .i64 k)) rfl ?_)
  refine s_op (o_dirOut (k := k) Tryz.underlying79 (key_int Tryz.underlying3) ti123 rfl rfl f35 (hH36.front 2 rfl) (fun hN37 => ?_) (fun b39 v40 sx41 sr42 hS38 hx43 hh44 hH45 => ?_))
  · -- none
    exact absurd (Eq.trans (Eq.symm hgk_) hN37) (by simp)
  · -- some
    have e_ : f = v40 := Option.some.inj (Eq.trans (Eq.symm hgk_) hS38)
    subst e_
    refine s_op (o_assign (v := (.pointer (some ⟨b39, 0, none⟩))) rfl ?_)
    refine s_nil ?_
    refine t_norm (hK29 _ _ ?_)
    refine wp_seq_k fun K46 hK46 => ?_
    refine c_region ?_
    refine s_op (o_move (v := (.pointer (some ⟨b39, 0, none⟩))) rfl ?_)
    refine s_op (o_nilCheck rfl ?_)
    obtain ⟨x47, s48, rfl, f49⟩ := hx43
    have hH50 : Has E w21 [[Hp.one b39 (.cells #[(.int .i64 f.no), (.int .i64 f.gsn), x47, (.bool f.dirty), (.int .i64 f.first), (.int .i64 f.pins)] 126 (0, 0))], s48, sr42, [Hp.one pl (.cells #[(.pointer (some ⟨x30, 0, none⟩)), (.int .i64 v.room), (.map (some x31))] 81 (0, 0))], s32, s15, R] := Has.op2 hH45
    refine s_op (o_fieldAddr (k := 3) (fun _ => by kernel_rfl) rfl ?_)
    refine s_op (o_load1 (v := (.bool f.dirty)) Tryz.underlying4 rfl rfl hH50 (seg_sub 0 rfl) (CellsAt.one rfl) ?_)
    refine s_nil ?_
    refine t_norm (hK46 _ _ ?_)
    refine c_condb rfl (fun h51 => ?_) (fun h51 => ?_)
    · -- f.dirty
      refine c_region ?_
      refine s_op (o_move (v := (.slice none 0 0)) rfl ?_)
      refine s_op (o_move (v := (.int .i64 k)) rfl ?_)
      refine s_op (o_move (v := (.pointer (some ⟨b39, 0, none⟩))) rfl ?_)
      refine s_op (o_nilCheck rfl ?_)
      refine s_op (o_fieldAddr (k := 4) (fun _ => by kernel_rfl) rfl ?_)
      refine s_op (o_load1 (v := (.int .i64 f.first)) Tryz.underlying3 rfl rfl hH50 (seg_sub 0 rfl) (CellsAt.one rfl) ?_)
      refine s_op (o_sight (v := (.agg #[(.int .i64 k), (.int .i64 f.first)])) (fun _ => by kernel_rfl) ?_)
      refine s_op (o_buildSlice (ps := #[(0, (.agg #[(.int .i64 k), (.int .i64 f.first)]))]) (cells := #[(.int .i64 k), (.int .i64 f.first)]) Tryz.underlying86 ti128 (by decide) (parts1 rfl) (by kernel_rfl) hH50 fun b52 w53 hH54 => ?_)
      refine s_op (o_append Tryz.underlying86 ti128 rfl (by decide) rfl (Own.nil 128 2) rfl (sl_litF (f := drC) (l := [((k, f.first) : Int × Int)]) drC_len rfl rfl (by simp)) (Has.nil hH54) (seg_sub 0 rfl) (one_drC _) (by simp) (by simp) fun v55 s56 w58 ho57 hH59 => ?_)
      have ho57 : Own 128 2 v55 [((k, f.first) : Int × Int)].length ([((k, f.first) : Int × Int)].flatMap drC) s56 := Own.appF (a := []) ho57
      refine s_op (o_assign (v := v55) rfl ?_)
      refine s_nil ?_
      refine b_norm ?_
      refine t_norm (hK24 _ _ ?_)
      refine c_region ?_
      refine s_op (o_add (a := 0) (b := 1) (c := 1) rfl rfl (by decide) ?_)
      refine s_op (o_move (v := (.int .i64 1)) rfl ?_)
      refine s_nil ?_
      refine t_norm (u_round ?_)
      refine wp_seq_k fun K60 hK60 => ?_
      refine c_region ?_
      refine s_op (o_lss (a := 1) (b := 1) rfl rfl ?_)
      refine s_nil ?_
      refine t_norm (hK60 _ _ ?_)
      refine wp_seq_k fun K61 hK61 => ?_
      refine c_false rfl rfl ?_
      refine wp_exit ?_
      refine t_exit (t_exit (x_in (?_)))
      refine t_norm (hK10 _ _ ?_)
      refine wp_seq_k fun K62 hK62 => ?_
      refine c_region ?_
      refine s_op (o_move (v := v55) rfl ?_)
      refine s_op (o_assign (v := v55) rfl ?_)
      refine s_nil ?_
      refine t_norm (hK62 _ _ ?_)
      refine wp_ret ?_
      refine c_ret1 Tryz.results45  (v := v55) rfl ?_
      have q63 : [(k, f.first)] = [((k, f.first) : Int × Int)] := by rfl
      have hH64 : Has E w58 [([Hp.one b39 (.cells #[(.int .i64 f.no), (.int .i64 f.gsn), x47, (.bool f.dirty), (.int .i64 f.first), (.int .i64 f.pins)] 126 (0, 0))] ++ s48), s56, [Hp.one b52 (.cells #[(.int .i64 k), (.int .i64 f.first)] 128 (0, 0))], sr42, [Hp.one pl (.cells #[(.pointer (some ⟨x30, 0, none⟩)), (.int .i64 v.room), (.map (some x31))] 81 (0, 0))], s32, s15, R] := Has.cl2 ((hH59.front 3 rfl).front 3 rfl)
      have hd65 : FrmAt b39 ([Hp.one b39 (.cells #[(.int .i64 f.no), (.int .i64 f.gsn), x47, (.bool f.dirty), (.int .i64 f.first), (.int .i64 f.pins)] 126 (0, 0))] ++ s48) f := FrmAt.mk (v := f) f49
      obtain ⟨sg66, hd67, hH68⟩ := DirHole.close hh44 hd65 ((hH64.front 3 rfl).front 1 rfl)
      have hd67 : DirAt iV FrmAt x31 sg66 (putB v.fr k f) := hd67
      have hH69 : Has E w58 [([Hp.one pl (.cells #[(.pointer (some ⟨x30, 0, none⟩)), (.int .i64 v.room), (.map (some x31))] 81 (0, 0))] ++ (s32 ++ sg66)), s56, [Hp.one b52 (.cells #[(.int .i64 k), (.int .i64 f.first)] 128 (0, 0))], s15, R] := Has.cl3 ((hH68.front 4 rfl).front 4 rfl)
      have hd70 : PolAt pl ([Hp.one pl (.cells #[(.pointer (some ⟨x30, 0, none⟩)), (.int .i64 v.room), (.map (some x31))] 81 (0, 0))] ++ (s32 ++ sg66)) (⟨v.tw, v.room, (putB v.fr k f)⟩ : PolS) := PolAt.mk (v := (⟨v.tw, v.room, (putB v.fr k f)⟩ : PolS)) f34 hd67
      have q71 : v = (⟨v.tw, v.room, (putB v.fr k f)⟩ : PolS) := by rw [putB_me hgk_]
      have hH72 : Has E w58 [s56, ([Hp.one pl (.cells #[(.pointer (some ⟨x30, 0, none⟩)), (.int .i64 v.room), (.map (some x31))] 81 (0, 0))] ++ (s32 ++ sg66)), R] := (((hH69.front 4 rfl).front 1 rfl).front 2 rfl).first 3 rfl
      exact ⟨_, _, _, rfl, (by rw [q63]; exact ho57), (by rw [q71]; exact hd70), hH72⟩
    · -- not: f.dirty
      exact absurd hd (by simpa using h51)
end Go.Q
namespace Go.Q
open Go.Proofs
set_option linter.unusedVariables false
set_option maxRecDepth 100000
attribute [local irreducible] wpList OK Code.wp
set_option maxHeartbeats 4000000 in
theorem each_busy {E w : World} {R : List Hp} {pl : Nat} {sg_pl : List Hp} {v : PolS} {v_k : Value} {k : Int} {hb : Nat} {h : Int} {pb : Nat} {nb : Nat} {sg_nb : List Hp} {m : BxS} {f : Frm} (hH : Has E w [sg_pl, sg_nb, R]) (h_pl : PolAt pl sg_pl v) (h_k : Sl R 1 v_k [k].length ([k].map iV)) (h_hb : CellsAt R hb 0 [(.int .i64 h)]) (h_pb : CellsAt R pb 0 [(.pointer (some ⟨pl, 0, none⟩))]) (h_nb : BxAt nb sg_nb m) (hgf : getB v.fr k = some f) (hd : f.dirty = true) (hbz : h < f.gsn) :
    Calls Tryz.prog 79 #[(.pointer (some ⟨pl, 0, none⟩)), v_k, (.func (.func 80) #[] #[(.pointer (some ⟨hb, 0, none⟩)), (.pointer (some ⟨pb, 0, none⟩)), (.pointer (some ⟨nb, 0, none⟩))])] w fun e w' => ∃ (sg_pl' : List Hp) (sg_nb' : List Hp), e = .returned (.int .i64 10) ∧ (PolAt pl sg_pl' v) ∧ (BxAt nb sg_nb' m) ∧ Has E w' [sg_pl', sg_nb', R] := by
  obtain ⟨x1, x2, s3, s4, rfl, f5, f6⟩ := h_pl
  have hH7 : Has E w [[Hp.one pl (.cells #[(.pointer (some ⟨x1, 0, none⟩)), (.int .i64 v.room), (.map (some x2))] 81 (0, 0))], s3, s4, sg_nb, R] := Has.op3 hH
  obtain rfl := (show sg_nb = _ from h_nb)
  have hH8 := (hH7.front 3 rfl)
  refine c_enter (args := [(.pointer (some ⟨pl, 0, none⟩)), v_k, (.func (.func 80) #[] #[(.pointer (some ⟨hb, 0, none⟩)), (.pointer (some ⟨pb, 0, none⟩)), (.pointer (some ⟨nb, 0, none⟩))])]) Tryz.func79 rfl Tryz.ntmps79 (by simp) ?_
  refine wp_seq_k fun K9 hK9 => ?_
  refine c_region ?_
  refine s_op (o_assign (v := (.int .i64 0)) rfl ?_)
  refine s_nil ?_
  refine t_norm (hK9 _ _ ?_)
  refine wp_seq_k fun K10 hK10 => ?_
  refine wp_seq_k fun K11 hK11 => ?_
  refine c_region ?_
  refine s_op (o_move (v := (.pointer (some ⟨pl, 0, none⟩))) rfl ?_)
  refine s_op (o_pnil (p := some _) Tryz.underlying65 rfl rfl ?_)
  refine s_nil ?_
  refine t_norm (hK11 _ _ ?_)
  refine c_false rfl rfl ?_
  refine wp_skip ?_
  refine t_norm (hK10 _ _ ?_)
  refine wp_seq_k fun K12 hK12 => ?_
  refine wp_seq_k fun K13 hK13 => ?_
  refine c_region ?_
  refine s_op (o_move (v := v_k) rfl ?_)
  refine s_op (o_lenS Tryz.underlying40 rfl h_k ?_)
  refine s_op (o_move (v := (.int .i64 0)) rfl ?_)
  refine s_nil ?_
  refine t_norm (hK13 _ _ ?_)
  refine wp_block ?_
  refine u_loop 3 (u_round ?_)
  refine wp_seq_k fun K14 hK14 => ?_
  refine c_region ?_
  refine s_op (o_lss (a := 0) (b := 1) rfl rfl ?_)
  refine s_nil ?_
  refine t_norm (hK14 _ _ ?_)
  refine wp_seq_k fun K15 hK15 => ?_
  refine c_true rfl rfl ?_
  refine wp_skip ?_
  refine t_norm (hK15 _ _ ?_)
  refine wp_seq_k fun K16 hK16 => ?_
  refine wp_block ?_
  refine wp_seq_k fun K17 hK17 => ?_
  refine c_region ?_
  refine s_op (o_index1 Tryz.underlying40 ti3 rfl h_k rfl (by omega) (show [k][((0 : Int)).toNat]? = some k from rfl) fun b18 o19 hc20 => ?_)
  refine s_op (o_load1 (v := (.int .i64 k)) Tryz.underlying3 rfl rfl hH8 (seg_sub 4 rfl) hc20 ?_)
  refine s_op (o_assign (v := (.int .i64 k)) rfl ?_)
  refine s_nil ?_
  refine t_norm (hK17 _ _ ?_)
  refine wp_seq_k fun K21 hK21 => ?_
  refine c_region ?_
  refine s_op (o_move (v := (.pointer (some ⟨pl, 0, none⟩))) rfl ?_)
  refine s_op (o_nilCheck rfl ?_)
  refine s_op (o_fieldAddr (k := 2) (fun _ => by kernel_rfl) rfl ?_)
  refine s_op (o_load1 (v := (.map (some x2))) Tryz.underlying79 rfl rfl hH8 (seg_sub 1 rfl) (CellsAt.one rfl) ?_)
  refine s_op (o_move (v := (.int .i64 k)) rfl ?_)
  refine s_op (o_dirOut (k := k) Tryz.underlying79 (key_int Tryz.underlying3) ti123 rfl rfl f6 (hH8.front 3 rfl) (fun hN22 => ?_) (fun b24 v25 sx26 sr27 hS23 hx28 hh29 hH30 => ?_))
  · -- none
    exact absurd (Eq.trans (Eq.symm hgf) hN22) (by simp)
  · -- some
    have e_ : f = v25 := Option.some.inj (Eq.trans (Eq.symm hgf) hS23)
    subst e_
    refine s_op (o_assign (v := (.pointer (some ⟨b24, 0, none⟩))) rfl ?_)
    refine s_nil ?_
    refine t_norm (hK21 _ _ ?_)
    refine wp_seq_k fun K31 hK31 => ?_
    refine wp_seq_k fun K32 hK32 => ?_
    refine c_region ?_
    refine s_op (o_move (v := (.pointer (some ⟨b24, 0, none⟩))) rfl ?_)
    refine s_op (o_pnil (p := some _) Tryz.underlying123 rfl rfl ?_)
    refine s_nil ?_
    refine t_norm (hK32 _ _ ?_)
    refine c_false rfl rfl ?_
    refine wp_skip ?_
    refine t_norm (hK31 _ _ ?_)
    refine wp_seq_k fun K33 hK33 => ?_
    refine c_region ?_
    refine s_op (o_move (v := (.func (.func 80) #[] #[(.pointer (some ⟨hb, 0, none⟩)), (.pointer (some ⟨pb, 0, none⟩)), (.pointer (some ⟨nb, 0, none⟩))])) rfl ?_)
    refine s_op (o_move (v := (.pointer (some ⟨b24, 0, none⟩))) rfl ?_)
    have hd35 : BxAt nb [Hp.one nb (.cells #[(.int .i64 m.n)] 3 (0, 0))] m := rfl
    refine s_op (o_callf (vs := #[(.pointer (some ⟨b24, 0, none⟩)), (.pointer (some ⟨hb, 0, none⟩)), (.pointer (some ⟨pb, 0, none⟩)), (.pointer (some ⟨nb, 0, none⟩))]) ca80 rfl (args1c3 rfl) (flf_busy (v := f) (h := h) (pl := pl) (m := m) (mb := x2) (rm := v.room) (t := v.tw) (((hH30.front 4 rfl).front 3 rfl).front 2 rfl).all3 hx28 (h_hb.mono (seg_sub 2 rfl)) (h_pb.mono (seg_sub 2 rfl)) hd35 ((CellsAt.one rfl).mono (seg_sub 1 rfl)) f5 hd hbz) ?_)
    rintro _ w44 ⟨sg36, sg38, sg40, rfl, hd37, hd39, hd41, hX42⟩
    refine ⟨_, rfl, ?_⟩
    have hH43 : Has E w44 [sg36, sg38, sg40, sr27, [Hp.one pl (.cells #[(.pointer (some ⟨x1, 0, none⟩)), (.int .i64 v.room), (.map (some x2))] 81 (0, 0))], R] := hX42.of_all3
    refine s_op (o_assign (v := (.int .i64 10)) rfl ?_)
    refine s_nil ?_
    refine t_norm (hK33 _ _ ?_)
    refine wp_seq_k fun K45 hK45 => ?_
    refine c_region ?_
    refine s_op (o_move (v := (.int .i64 10)) rfl ?_)
    refine s_op (o_neq (a := 10) (b := 0) rfl rfl ?_)
    refine s_nil ?_
    refine t_norm (hK45 _ _ ?_)
    refine c_true rfl rfl ?_
    refine wp_seq_k fun K46 hK46 => ?_
    refine c_region ?_
    refine s_op (o_move (v := (.int .i64 10)) rfl ?_)
    refine s_op (o_assign (v := (.int .i64 10)) rfl ?_)
    refine s_nil ?_
    refine t_norm (hK46 _ _ ?_)
    refine wp_ret ?_
    refine b_ret (t_ret (t_ret (b_ret (t_ret (c_ret1 Tryz.results79  (v := (.int .i64 10)) rfl ?_)))))
    obtain ⟨sg47, hd48, hH49⟩ := DirHole.close hh29 hd37 ((hH43.front 3 rfl).front 1 rfl)
    have hd48 : DirAt iV FrmAt x2 sg47 (putB v.fr k f) := hd48
    have hH50 : Has E w44 [([Hp.one pl (.cells #[(.pointer (some ⟨x1, 0, none⟩)), (.int .i64 v.room), (.map (some x2))] 81 (0, 0))] ++ (sg40 ++ sg47)), sg38, R] := Has.cl3 ((hH49.front 2 rfl).front 3 rfl)
    have hd51 : PolAt pl ([Hp.one pl (.cells #[(.pointer (some ⟨x1, 0, none⟩)), (.int .i64 v.room), (.map (some x2))] 81 (0, 0))] ++ (sg40 ++ sg47)) (⟨v.tw, v.room, (putB v.fr k f)⟩ : PolS) := PolAt.mk (v := (⟨v.tw, v.room, (putB v.fr k f)⟩ : PolS)) hd41 hd48
    have q52 : v = (⟨v.tw, v.room, (putB v.fr k f)⟩ : PolS) := by rw [putB_me hgf]
    exact ⟨_, _, rfl, (by rw [q52]; exact hd51), hd39, hH50⟩
set_option maxHeartbeats 4000000 in
theorem each_ok {E w : World} {R : List Hp} {pl : Nat} {sg_pl : List Hp} {v : PolS} {v_k : Value} {k : Int} {hb : Nat} {h : Int} {pb : Nat} {nb : Nat} {sg_nb : List Hp} {m : BxS} {f : Frm} {kk : Nat} (hH : Has E w [sg_pl, sg_nb, R]) (h_pl : PolAt pl sg_pl v) (h_k : Sl R 1 v_k [k].length ([k].map iV)) (h_hb : CellsAt R hb 0 [(.int .i64 h)]) (h_pb : CellsAt R pb 0 [(.pointer (some ⟨pl, 0, none⟩))]) (h_nb : BxAt nb sg_nb m) (hg : CellsAt R 1 0 nibV) (hgf : getB v.fr k = some f) (hd : f.dirty = true) (hle : f.gsn ≤ h) (hs0 : (st1 v.tw.1 v.tw.2 (pgF f)).1 = 0) (hmm : m.n + 1 ≤ 1000000 ∧ 0 ≤ m.n) (hok : TwOk v.tw) (hfw : Few v.tw.1.p kk) (hkk : kk ≤ 700000) :
    Calls Tryz.prog 79 #[(.pointer (some ⟨pl, 0, none⟩)), v_k, (.func (.func 80) #[] #[(.pointer (some ⟨hb, 0, none⟩)), (.pointer (some ⟨pb, 0, none⟩)), (.pointer (some ⟨nb, 0, none⟩))])] w fun e w' => ∃ (sg_pl' : List Hp) (sg_nb' : List Hp), e = .returned (.int .i64 0) ∧ (PolAt pl sg_pl' (⟨((st1 v.tw.1 v.tw.2 (pgF f)).2, v.tw.2), v.room, putB v.fr k ⟨f.no, f.gsn, f.cells, false, f.first, f.pins⟩⟩ : PolS)) ∧ (BxAt nb sg_nb' (⟨m.n + 1⟩ : BxS)) ∧ Has E w' [sg_pl', sg_nb', R] := by
  obtain ⟨x1, x2, s3, s4, rfl, f5, f6⟩ := h_pl
  have hH7 : Has E w [[Hp.one pl (.cells #[(.pointer (some ⟨x1, 0, none⟩)), (.int .i64 v.room), (.map (some x2))] 81 (0, 0))], s3, s4, sg_nb, R] := Has.op3 hH
  obtain rfl := (show sg_nb = _ from h_nb)
  have hH8 := (hH7.front 3 rfl)
  refine c_enter (args := [(.pointer (some ⟨pl, 0, none⟩)), v_k, (.func (.func 80) #[] #[(.pointer (some ⟨hb, 0, none⟩)), (.pointer (some ⟨pb, 0, none⟩)), (.pointer (some ⟨nb, 0, none⟩))])]) Tryz.func79 rfl Tryz.ntmps79 (by simp) ?_
  refine wp_seq_k fun K9 hK9 => ?_
  refine c_region ?_
  refine s_op (o_assign (v := (.int .i64 0)) rfl ?_)
  refine s_nil ?_
  refine t_norm (hK9 _ _ ?_)
  refine wp_seq_k fun K10 hK10 => ?_
  refine wp_seq_k fun K11 hK11 => ?_
  refine c_region ?_
  refine s_op (o_move (v := (.pointer (some ⟨pl, 0, none⟩))) rfl ?_)
  refine s_op (o_pnil (p := some _) Tryz.underlying65 rfl rfl ?_)
  refine s_nil ?_
  refine t_norm (hK11 _ _ ?_)
  refine c_false rfl rfl ?_
  refine wp_skip ?_
  refine t_norm (hK10 _ _ ?_)
  refine wp_seq_k fun K12 hK12 => ?_
  refine wp_seq_k fun K13 hK13 => ?_
  refine c_region ?_
  refine s_op (o_move (v := v_k) rfl ?_)
  refine s_op (o_lenS Tryz.underlying40 rfl h_k ?_)
  refine s_op (o_move (v := (.int .i64 0)) rfl ?_)
  refine s_nil ?_
  refine t_norm (hK13 _ _ ?_)
  refine wp_block ?_
  refine u_loop 3 (u_round ?_)
  refine wp_seq_k fun K14 hK14 => ?_
  refine c_region ?_
  refine s_op (o_lss (a := 0) (b := 1) rfl rfl ?_)
  refine s_nil ?_
  refine t_norm (hK14 _ _ ?_)
  refine wp_seq_k fun K15 hK15 => ?_
  refine c_true rfl rfl ?_
  refine wp_skip ?_
  refine t_norm (hK15 _ _ ?_)
  refine wp_seq_k fun K16 hK16 => ?_
  refine wp_block ?_
  refine wp_seq_k fun K17 hK17 => ?_
  refine c_region ?_
  refine s_op (o_index1 Tryz.underlying40 ti3 rfl h_k rfl (by omega) (show [k][((0 : Int)).toNat]? = some k from rfl) fun b18 o19 hc20 => ?_)
  refine s_op (o_load1 (v := (.int .i64 k)) Tryz.underlying3 rfl rfl hH8 (seg_sub 4 rfl) hc20 ?_)
  refine s_op (o_assign (v := (.int .i64 k)) rfl ?_)
  refine s_nil ?_
  refine t_norm (hK17 _ _ ?_)
  refine wp_seq_k fun K21 hK21 => ?_
  refine c_region ?_
  refine s_op (o_move (v := (.pointer (some ⟨pl, 0, none⟩))) rfl ?_)
  refine s_op (o_nilCheck rfl ?_)
  refine s_op (o_fieldAddr (k := 2) (fun _ => by kernel_rfl) rfl ?_)
  refine s_op (o_load1 (v := (.map (some x2))) Tryz.underlying79 rfl rfl hH8 (seg_sub 1 rfl) (CellsAt.one rfl) ?_)
  refine s_op (o_move (v := (.int .i64 k)) rfl ?_)
  refine s_op (o_dirOut (k := k) Tryz.underlying79 (key_int Tryz.underlying3) ti123 rfl rfl f6 (hH8.front 3 rfl) (fun hN22 => ?_) (fun b24 v25 sx26 sr27 hS23 hx28 hh29 hH30 => ?_))
  · -- none
    exact absurd (Eq.trans (Eq.symm hgf) hN22) (by simp)
  · -- some
    have e_ : f = v25 := Option.some.inj (Eq.trans (Eq.symm hgf) hS23)
    subst e_
    refine s_op (o_assign (v := (.pointer (some ⟨b24, 0, none⟩))) rfl ?_)
    refine s_nil ?_
    refine t_norm (hK21 _ _ ?_)
    refine wp_seq_k fun K31 hK31 => ?_
    refine wp_seq_k fun K32 hK32 => ?_
    refine c_region ?_
    refine s_op (o_move (v := (.pointer (some ⟨b24, 0, none⟩))) rfl ?_)
    refine s_op (o_pnil (p := some _) Tryz.underlying123 rfl rfl ?_)
    refine s_nil ?_
    refine t_norm (hK32 _ _ ?_)
    refine c_false rfl rfl ?_
    refine wp_skip ?_
    refine t_norm (hK31 _ _ ?_)
    refine wp_seq_k fun K33 hK33 => ?_
    refine c_region ?_
    refine s_op (o_move (v := (.func (.func 80) #[] #[(.pointer (some ⟨hb, 0, none⟩)), (.pointer (some ⟨pb, 0, none⟩)), (.pointer (some ⟨nb, 0, none⟩))])) rfl ?_)
    refine s_op (o_move (v := (.pointer (some ⟨b24, 0, none⟩))) rfl ?_)
    have hd35 : BxAt nb [Hp.one nb (.cells #[(.int .i64 m.n)] 3 (0, 0))] m := rfl
    refine s_op (o_callf (vs := #[(.pointer (some ⟨b24, 0, none⟩)), (.pointer (some ⟨hb, 0, none⟩)), (.pointer (some ⟨pb, 0, none⟩)), (.pointer (some ⟨nb, 0, none⟩))]) ca80 rfl (args1c3 rfl) (flf_ok (v := f) (h := h) (pl := pl) (m := m) (mb := x2) (rm := v.room) (t := v.tw) (kk := kk) (((hH30.front 4 rfl).front 3 rfl).front 2 rfl).all3 hx28 (h_hb.mono (seg_sub 2 rfl)) (h_pb.mono (seg_sub 2 rfl)) hd35 ((CellsAt.one rfl).mono (seg_sub 1 rfl)) f5 (hg.mono (seg_sub 2 rfl)) hd hle hs0 hmm hok hfw hkk) ?_)
    rintro _ w44 ⟨sg36, sg38, sg40, rfl, hd37, hd39, hd41, hX42⟩
    refine ⟨_, rfl, ?_⟩
    have hH43 : Has E w44 [sg36, sg38, sg40, sr27, [Hp.one pl (.cells #[(.pointer (some ⟨x1, 0, none⟩)), (.int .i64 v.room), (.map (some x2))] 81 (0, 0))], R] := hX42.of_all3
    refine s_op (o_assign (v := (.int .i64 0)) rfl ?_)
    refine s_nil ?_
    refine t_norm (hK33 _ _ ?_)
    refine wp_seq_k fun K45 hK45 => ?_
    refine c_region ?_
    refine s_op (o_move (v := (.int .i64 0)) rfl ?_)
    refine s_op (o_neq (a := 0) (b := 0) rfl rfl ?_)
    refine s_nil ?_
    refine t_norm (hK45 _ _ ?_)
    refine c_false rfl rfl ?_
    refine wp_skip ?_
    refine b_norm ?_
    refine t_norm (hK16 _ _ ?_)
    refine c_region ?_
    refine s_op (o_add (a := 0) (b := 1) (c := 1) rfl rfl (by decide) ?_)
    refine s_op (o_move (v := (.int .i64 1)) rfl ?_)
    refine s_nil ?_
    refine t_norm (u_round ?_)
    refine wp_seq_k fun K46 hK46 => ?_
    refine c_region ?_
    refine s_op (o_lss (a := 1) (b := 1) rfl rfl ?_)
    refine s_nil ?_
    refine t_norm (hK46 _ _ ?_)
    refine wp_seq_k fun K47 hK47 => ?_
    refine c_false rfl rfl ?_
    refine wp_exit ?_
    refine t_exit (t_exit (x_in (?_)))
    refine t_norm (hK12 _ _ ?_)
    refine wp_seq_k fun K48 hK48 => ?_
    refine c_region ?_
    refine s_op (o_assign (v := (.int .i64 0)) rfl ?_)
    refine s_nil ?_
    refine t_norm (hK48 _ _ ?_)
    refine wp_ret ?_
    refine c_ret1 Tryz.results79  (v := (.int .i64 0)) rfl ?_
    obtain ⟨sg49, hd50, hH51⟩ := DirHole.close hh29 hd37 ((hH43.front 3 rfl).front 1 rfl)
    have hd50 : DirAt iV FrmAt x2 sg49 (putB v.fr k (⟨f.no, f.gsn, f.cells, false, f.first, f.pins⟩ : Frm)) := hd50
    have hH52 : Has E w44 [([Hp.one pl (.cells #[(.pointer (some ⟨x1, 0, none⟩)), (.int .i64 v.room), (.map (some x2))] 81 (0, 0))] ++ (sg40 ++ sg49)), sg38, R] := Has.cl3 ((hH51.front 2 rfl).front 3 rfl)
    have hd53 : PolAt pl ([Hp.one pl (.cells #[(.pointer (some ⟨x1, 0, none⟩)), (.int .i64 v.room), (.map (some x2))] 81 (0, 0))] ++ (sg40 ++ sg49)) (⟨((st1 v.tw.1 v.tw.2 (pgF f)).2, v.tw.2), v.room, (putB v.fr k (⟨f.no, f.gsn, f.cells, false, f.first, f.pins⟩ : Frm))⟩ : PolS) := PolAt.mk (v := (⟨((st1 v.tw.1 v.tw.2 (pgF f)).2, v.tw.2), v.room, (putB v.fr k (⟨f.no, f.gsn, f.cells, false, f.first, f.pins⟩ : Frm))⟩ : PolS)) hd41 hd50
    have q54 : (⟨((st1 v.tw.1 v.tw.2 (pgF f)).2, v.tw.2), v.room, putB v.fr k ⟨f.no, f.gsn, f.cells, false, f.first, f.pins⟩⟩ : PolS) = (⟨((st1 v.tw.1 v.tw.2 (pgF f)).2, v.tw.2), v.room, (putB v.fr k (⟨f.no, f.gsn, f.cells, false, f.first, f.pins⟩ : Frm))⟩ : PolS) := by rfl
    exact ⟨_, _, rfl, (by rw [q54]; exact hd53), hd39, hH52⟩
end Go.Q
namespace Go.Q
open Go.Proofs
set_option linter.unusedVariables false
set_option maxRecDepth 100000
attribute [local irreducible] wpList OK Code.wp
set_option maxHeartbeats 4000000 in
theorem flush_busy {E w : World} {R : List Hp} {pl : Nat} {sg_pl : List Hp} {v : PolS} {h : Int}  {k : Int} {f : Frm} (hH : Has E w [sg_pl, R]) (h_pl : PolAt pl sg_pl v) (hfr : v.fr = [(k, f)]) (hkw : ∀ p ∈ v.fr, (Lit.int .i64 p.1).wf = true) (hkn : v.fr.length ≤ 1000000) (hd : f.dirty = true) (hbz : h < f.gsn) :
    Calls Tryz.prog 39 #[(.pointer (some ⟨pl, 0, none⟩)), (.int .i64 h), (.slice none 0 0)] w fun e w' => ∃ (sg_pl' : List Hp), e = .returned (.tuple #[(.int .i64 0), (.int .i64 10)]) ∧ (PolAt pl sg_pl' v) ∧ Has E w' [sg_pl', R] := by
  have hgk_ : getB v.fr k = some f := by rw [hfr, getB, if_pos rfl]
  obtain ⟨x1, x2, s3, s4, rfl, f5, f6⟩ := h_pl
  have hH7 : Has E w [[Hp.one pl (.cells #[(.pointer (some ⟨x1, 0, none⟩)), (.int .i64 v.room), (.map (some x2))] 81 (0, 0))], s3, s4, R] := Has.op3 hH
  refine c_enter (args := [(.pointer (some ⟨pl, 0, none⟩)), (.int .i64 h), (.slice none 0 0)]) Tryz.func39 rfl Tryz.ntmps39 (by simp) ?_
  refine wp_seq_k fun K8 hK8 => ?_
  refine c_region ?_
  refine s_op (o_box (cs := #[(.pointer (some ⟨pl, 0, none⟩))]) rfl rfl hH7 fun b9 w10 hH11 => ?_)
  refine s_op (o_box (cs := #[(.int .i64 h)]) rfl rfl hH11 fun b12 w13 hH14 => ?_)
  refine s_op (o_assign (v := (.int .i64 0)) rfl ?_)
  refine s_op (o_assign (v := (.int .i64 0)) rfl ?_)
  refine s_nil ?_
  refine t_norm (hK8 _ _ ?_)
  refine wp_seq_k fun K15 hK15 => ?_
  refine c_region ?_
  refine s_op (o_alloc (cs := #[(.int .i64 0)]) ti3 rfl hH14 fun b16 w17 hH18 => ?_)
  refine s_eff (o_store1 (c' := #[(.int .i64 0)]) ti3 rfl rfl rfl (by simp) rfl (hH18.front 0 rfl) fun w19 hH20 => ?_)
  refine s_nil ?_
  refine t_norm (hK15 _ _ ?_)
  refine wp_seq_k fun K21 hK21 => ?_
  refine wp_seq_k fun K22 hK22 => ?_
  refine c_region ?_
  refine s_op (o_move (v := (.slice none 0 0)) rfl ?_)
  refine s_op (o_lenS Tryz.underlying40 rfl (sl_nil (L := []) 1) ?_)
  refine s_op (o_eql (a := ((0 : Nat) : Int)) (b := 0) rfl rfl ?_)
  refine s_nil ?_
  refine t_norm (hK22 _ _ ?_)
  refine c_true rfl rfl ?_
  refine wp_seq_k fun K23 hK23 => ?_
  refine c_region ?_
  refine s_op (o_load1 (v := (.pointer (some ⟨pl, 0, none⟩))) Tryz.underlying65 rfl rfl hH20 (seg_sub 2 rfl) (CellsAt.one rfl) ?_)
  have hH24 : Has E w19 [([Hp.one pl (.cells #[(.pointer (some ⟨x1, 0, none⟩)), (.int .i64 v.room), (.map (some x2))] 81 (0, 0))] ++ (s3 ++ s4)), [Hp.one b16 (.cells #[(.int .i64 0)] 3 (0, 0))], [Hp.one b12 (.cells #[(.int .i64 h)] 3 (0, 0))], [Hp.one b9 (.cells #[(.pointer (some ⟨pl, 0, none⟩))] 65 (0, 0))], R] := Has.cl3 (((hH20.front 5 rfl).front 5 rfl).front 5 rfl)
  have hd25 : PolAt pl ([Hp.one pl (.cells #[(.pointer (some ⟨x1, 0, none⟩)), (.int .i64 v.room), (.map (some x2))] 81 (0, 0))] ++ (s3 ++ s4)) v := PolAt.mk (v := v) f5 f6
  refine s_op (o_callf (vs := #[(.pointer (some ⟨pl, 0, none⟩))]) ca45 rfl (args1 rfl) (dirty_one (v := v) (k := k) (f := f) hH24.all1 hd25 hfr hkw hkn hd) ?_)
  rintro _ w33 ⟨v26, s27, sg29, rfl, ho28, hd30, hX31⟩
  refine ⟨_, rfl, ?_⟩
  have hH32 : Has E w33 [s27, sg29, [Hp.one b16 (.cells #[(.int .i64 0)] 3 (0, 0))], [Hp.one b12 (.cells #[(.int .i64 h)] 3 (0, 0))], [Hp.one b9 (.cells #[(.pointer (some ⟨pl, 0, none⟩))] 65 (0, 0))], R] := hX31.of_all2
  refine s_op (o_lenS Tryz.underlying86 rfl ho28.sl ?_)
  refine s_op (o_move (v := (.int .i64 0)) rfl ?_)
  refine s_nil ?_
  refine t_norm (hK23 _ _ ?_)
  refine wp_block ?_
  refine u_loop 3 (u_round ?_)
  refine wp_seq_k fun K34 hK34 => ?_
  refine c_region ?_
  refine s_op (o_lss (a := 0) (b := 1) rfl rfl ?_)
  refine s_nil ?_
  refine t_norm (hK34 _ _ ?_)
  refine wp_seq_k fun K35 hK35 => ?_
  refine c_true rfl rfl ?_
  refine wp_skip ?_
  refine t_norm (hK35 _ _ ?_)
  refine wp_seq_k fun K36 hK36 => ?_
  refine wp_block ?_
  refine wp_seq_k fun K37 hK37 => ?_
  refine c_region ?_
  refine s_op (o_indexF drC_len Tryz.underlying86 ti128 rfl ho28.sl rfl rfl (by omega) (show [(k, f.first)][((0 : Int)).toNat]? = some (k, f.first) from rfl) fun b38 o39 hc40 => ?_)
  refine s_op (o_loadN (cs := [(.int .i64 ((k, f.first).1)), (.int .i64 ((k, f.first).2))]) Tryz.underlying128 rfl ti128 rfl hH32 (seg_sub 0 rfl) hc40 ?_)
  refine s_op (o_alloc (cs := #[(.int .i64 0), (.int .i64 0)]) ti128 rfl hH32 fun b41 w42 hH43 => ?_)
  refine s_eff (o_storeN (vs := [(.int .i64 ((k, f.first).1)), (.int .i64 ((k, f.first).2))]) (c' := #[(.int .i64 ((k, f.first).1)), (.int .i64 ((k, f.first).2))]) ti128 rfl rfl rfl rfl (by intro u hu; simp only [List.mem_cons, List.not_mem_nil, or_false] at hu; rcases hu with rfl | rfl <;> first | rfl) (by simp) (by kernel_rfl) (hH43.front 0 rfl) fun w44 hH45 => ?_)
  refine s_nil ?_
  refine t_norm (hK37 _ _ ?_)
  refine c_region ?_
  refine s_op (o_move (v := (.slice none 0 0)) rfl ?_)
  refine s_op (o_fieldAddr (k := 0) (fun _ => by kernel_rfl) rfl ?_)
  refine s_op (o_load1 (v := (.int .i64 ((k, f.first).1))) Tryz.underlying3 rfl rfl hH45 (seg_sub 0 rfl) (CellsAt.one rfl) ?_)
  refine s_op (o_buildSlice (ps := #[(0, (.int .i64 ((k, f.first).1)))]) (cells := #[(.int .i64 ((k, f.first).1))]) Tryz.underlying40 ti3 (by decide) (parts1 rfl) (by kernel_rfl) hH45 fun b46 w47 hH48 => ?_)
  refine s_op (o_append Tryz.underlying40 ti3 rfl (by decide) rfl (Own.nil 3 1) rfl (sl_lit (f := iV) (l := [(k, f.first).1]) (g := (0, 0)) (T := 3) rfl rfl (by simp)) (Has.nil hH48) (seg_sub 0 rfl) (one_iV _) (by simp) (by simp) fun v49 s50 w52 ho51 hH53 => ?_)
  have ho51 : Own 3 1 v49 [(k, f.first).1].length ([(k, f.first).1].map iV) s50 := Own.app (a := []) ho51
  refine s_op (o_assign (v := v49) rfl ?_)
  refine s_nil ?_
  refine b_norm ?_
  refine t_norm (hK36 _ _ ?_)
  refine c_region ?_
  refine s_op (o_add (a := 0) (b := 1) (c := 1) rfl rfl (by decide) ?_)
  refine s_op (o_move (v := (.int .i64 1)) rfl ?_)
  refine s_nil ?_
  refine t_norm (u_round ?_)
  refine wp_seq_k fun K54 hK54 => ?_
  refine c_region ?_
  refine s_op (o_lss (a := 1) (b := 1) rfl rfl ?_)
  refine s_nil ?_
  refine t_norm (hK54 _ _ ?_)
  refine wp_seq_k fun K55 hK55 => ?_
  refine c_false rfl rfl ?_
  refine wp_exit ?_
  refine t_exit (t_exit (x_in (?_)))
  refine t_norm (hK21 _ _ ?_)
  refine wp_seq_k fun K56 hK56 => ?_
  refine c_region ?_
  refine s_op (o_load1 (v := (.pointer (some ⟨pl, 0, none⟩))) Tryz.underlying65 rfl rfl hH53 (seg_sub 7 rfl) (CellsAt.one rfl) ?_)
  refine s_op (o_move (v := v49) rfl ?_)
  refine s_op (o_makeFunc (vs := #[(.pointer (some ⟨b12, 0, none⟩)), (.pointer (some ⟨b9, 0, none⟩)), (.pointer (some ⟨b16, 0, none⟩))]) (cap3 rfl rfl rfl) ?_)
  have hd58 : BxAt b16 [Hp.one b16 (.cells #[(.int .i64 0)] 3 (0, 0))] (⟨0⟩ : BxS) := rfl
  refine s_op (o_callf (vs := #[(.pointer (some ⟨pl, 0, none⟩)), v49, (.func (.func 80) #[] #[(.pointer (some ⟨b12, 0, none⟩)), (.pointer (some ⟨b9, 0, none⟩)), (.pointer (some ⟨b16, 0, none⟩))])]) ca79 rfl (args3 rfl rfl rfl) (each_busy (v := v) (k := (k, f.first).1) (h := h) (m := (⟨0⟩ : BxS)) (f := f) ((hH53.front 5 rfl).front 5 rfl).all2 hd30 (ho51.sl.mono (seg_sub 0 rfl)) ((CellsAt.one rfl).mono (seg_sub 4 rfl)) ((CellsAt.one rfl).mono (seg_sub 5 rfl)) hd58 (show getB v.fr k = some f from hgk_) hd hbz) ?_)
  rintro _ w65 ⟨sg59, sg61, rfl, hd60, hd62, hX63⟩
  refine ⟨_, rfl, ?_⟩
  have hH64 : Has E w65 [sg59, sg61, s50, [Hp.one b46 (.cells #[(.int .i64 ((k, f.first).1))] 3 (0, 0))], [Hp.one b41 (.cells #[(.int .i64 ((k, f.first).1)), (.int .i64 ((k, f.first).2))] 128 (0, 0))], s27, [Hp.one b12 (.cells #[(.int .i64 h)] 3 (0, 0))], [Hp.one b9 (.cells #[(.pointer (some ⟨pl, 0, none⟩))] 65 (0, 0))], R] := hX63.of_all2
  refine s_op (o_assign (v := (.int .i64 10)) rfl ?_)
  refine s_nil ?_
  refine t_norm (hK56 _ _ ?_)
  refine wp_seq_k fun K66 hK66 => ?_
  refine c_region ?_
  obtain rfl := (show sg61 = _ from hd62)
  have hH67 := (hH64.front 1 rfl)
  refine s_op (o_load1 (v := (.int .i64 ((⟨0⟩ : BxS).n))) Tryz.underlying3 rfl rfl hH67 (seg_sub 0 rfl) (CellsAt.one rfl) ?_)
  refine s_op (o_move (v := (.int .i64 10)) rfl ?_)
  refine s_op (o_assign (v := (.int .i64 ((⟨0⟩ : BxS).n))) rfl ?_)
  refine s_op (o_assign (v := (.int .i64 10)) rfl ?_)
  refine s_nil ?_
  refine t_norm (hK66 _ _ ?_)
  refine wp_ret ?_
  refine c_ret2 Tryz.results39  (v := (.int .i64 ((⟨0⟩ : BxS).n))) rfl (x := (.int .i64 10)) rfl ?_
  have hH68 : Has E w65 [sg59, R] := ((hH67.front 8 rfl).front 2 rfl).first 2 rfl
  exact ⟨_, rfl, hd60, hH68⟩
set_option maxHeartbeats 4000000 in
theorem flush_ok {E w : World} {R : List Hp} {pl : Nat} {sg_pl : List Hp} {v : PolS} {h : Int}  {k : Int} {f : Frm} {kk : Nat} (hH : Has E w [sg_pl, R]) (h_pl : PolAt pl sg_pl v) (hg : CellsAt R 1 0 nibV) (hfr : v.fr = [(k, f)]) (hkw : ∀ p ∈ v.fr, (Lit.int .i64 p.1).wf = true) (hkn : v.fr.length ≤ 1000000) (hd : f.dirty = true) (hle : f.gsn ≤ h) (hs0 : (st1 v.tw.1 v.tw.2 (pgF f)).1 = 0) (hok : TwOk v.tw) (hfw : Few v.tw.1.p kk) (hkk : kk ≤ 700000) :
    Calls Tryz.prog 39 #[(.pointer (some ⟨pl, 0, none⟩)), (.int .i64 h), (.slice none 0 0)] w fun e w' => ∃ (sg_pl' : List Hp), e = .returned (.tuple #[(.int .i64 1), (.int .i64 0)]) ∧ (PolAt pl sg_pl' (⟨((st1 v.tw.1 v.tw.2 (pgF f)).2, v.tw.2), v.room, putB v.fr k ⟨f.no, f.gsn, f.cells, false, f.first, f.pins⟩⟩ : PolS)) ∧ Has E w' [sg_pl', R] := by
  have hgk_ : getB v.fr k = some f := by rw [hfr, getB, if_pos rfl]
  obtain ⟨x1, x2, s3, s4, rfl, f5, f6⟩ := h_pl
  have hH7 : Has E w [[Hp.one pl (.cells #[(.pointer (some ⟨x1, 0, none⟩)), (.int .i64 v.room), (.map (some x2))] 81 (0, 0))], s3, s4, R] := Has.op3 hH
  refine c_enter (args := [(.pointer (some ⟨pl, 0, none⟩)), (.int .i64 h), (.slice none 0 0)]) Tryz.func39 rfl Tryz.ntmps39 (by simp) ?_
  refine wp_seq_k fun K8 hK8 => ?_
  refine c_region ?_
  refine s_op (o_box (cs := #[(.pointer (some ⟨pl, 0, none⟩))]) rfl rfl hH7 fun b9 w10 hH11 => ?_)
  refine s_op (o_box (cs := #[(.int .i64 h)]) rfl rfl hH11 fun b12 w13 hH14 => ?_)
  refine s_op (o_assign (v := (.int .i64 0)) rfl ?_)
  refine s_op (o_assign (v := (.int .i64 0)) rfl ?_)
  refine s_nil ?_
  refine t_norm (hK8 _ _ ?_)
  refine wp_seq_k fun K15 hK15 => ?_
  refine c_region ?_
  refine s_op (o_alloc (cs := #[(.int .i64 0)]) ti3 rfl hH14 fun b16 w17 hH18 => ?_)
  refine s_eff (o_store1 (c' := #[(.int .i64 0)]) ti3 rfl rfl rfl (by simp) rfl (hH18.front 0 rfl) fun w19 hH20 => ?_)
  refine s_nil ?_
  refine t_norm (hK15 _ _ ?_)
  refine wp_seq_k fun K21 hK21 => ?_
  refine wp_seq_k fun K22 hK22 => ?_
  refine c_region ?_
  refine s_op (o_move (v := (.slice none 0 0)) rfl ?_)
  refine s_op (o_lenS Tryz.underlying40 rfl (sl_nil (L := []) 1) ?_)
  refine s_op (o_eql (a := ((0 : Nat) : Int)) (b := 0) rfl rfl ?_)
  refine s_nil ?_
  refine t_norm (hK22 _ _ ?_)
  refine c_true rfl rfl ?_
  refine wp_seq_k fun K23 hK23 => ?_
  refine c_region ?_
  refine s_op (o_load1 (v := (.pointer (some ⟨pl, 0, none⟩))) Tryz.underlying65 rfl rfl hH20 (seg_sub 2 rfl) (CellsAt.one rfl) ?_)
  have hH24 : Has E w19 [([Hp.one pl (.cells #[(.pointer (some ⟨x1, 0, none⟩)), (.int .i64 v.room), (.map (some x2))] 81 (0, 0))] ++ (s3 ++ s4)), [Hp.one b16 (.cells #[(.int .i64 0)] 3 (0, 0))], [Hp.one b12 (.cells #[(.int .i64 h)] 3 (0, 0))], [Hp.one b9 (.cells #[(.pointer (some ⟨pl, 0, none⟩))] 65 (0, 0))], R] := Has.cl3 (((hH20.front 5 rfl).front 5 rfl).front 5 rfl)
  have hd25 : PolAt pl ([Hp.one pl (.cells #[(.pointer (some ⟨x1, 0, none⟩)), (.int .i64 v.room), (.map (some x2))] 81 (0, 0))] ++ (s3 ++ s4)) v := PolAt.mk (v := v) f5 f6
  refine s_op (o_callf (vs := #[(.pointer (some ⟨pl, 0, none⟩))]) ca45 rfl (args1 rfl) (dirty_one (v := v) (k := k) (f := f) hH24.all1 hd25 hfr hkw hkn hd) ?_)
  rintro _ w33 ⟨v26, s27, sg29, rfl, ho28, hd30, hX31⟩
  refine ⟨_, rfl, ?_⟩
  have hH32 : Has E w33 [s27, sg29, [Hp.one b16 (.cells #[(.int .i64 0)] 3 (0, 0))], [Hp.one b12 (.cells #[(.int .i64 h)] 3 (0, 0))], [Hp.one b9 (.cells #[(.pointer (some ⟨pl, 0, none⟩))] 65 (0, 0))], R] := hX31.of_all2
  refine s_op (o_lenS Tryz.underlying86 rfl ho28.sl ?_)
  refine s_op (o_move (v := (.int .i64 0)) rfl ?_)
  refine s_nil ?_
  refine t_norm (hK23 _ _ ?_)
  refine wp_block ?_
  refine u_loop 3 (u_round ?_)
  refine wp_seq_k fun K34 hK34 => ?_
  refine c_region ?_
  refine s_op (o_lss (a := 0) (b := 1) rfl rfl ?_)
  refine s_nil ?_
  refine t_norm (hK34 _ _ ?_)
  refine wp_seq_k fun K35 hK35 => ?_
  refine c_true rfl rfl ?_
  refine wp_skip ?_
  refine t_norm (hK35 _ _ ?_)
  refine wp_seq_k fun K36 hK36 => ?_
  refine wp_block ?_
  refine wp_seq_k fun K37 hK37 => ?_
  refine c_region ?_
  refine s_op (o_indexF drC_len Tryz.underlying86 ti128 rfl ho28.sl rfl rfl (by omega) (show [(k, f.first)][((0 : Int)).toNat]? = some (k, f.first) from rfl) fun b38 o39 hc40 => ?_)
  refine s_op (o_loadN (cs := [(.int .i64 ((k, f.first).1)), (.int .i64 ((k, f.first).2))]) Tryz.underlying128 rfl ti128 rfl hH32 (seg_sub 0 rfl) hc40 ?_)
  refine s_op (o_alloc (cs := #[(.int .i64 0), (.int .i64 0)]) ti128 rfl hH32 fun b41 w42 hH43 => ?_)
  refine s_eff (o_storeN (vs := [(.int .i64 ((k, f.first).1)), (.int .i64 ((k, f.first).2))]) (c' := #[(.int .i64 ((k, f.first).1)), (.int .i64 ((k, f.first).2))]) ti128 rfl rfl rfl rfl (by intro u hu; simp only [List.mem_cons, List.not_mem_nil, or_false] at hu; rcases hu with rfl | rfl <;> first | rfl) (by simp) (by kernel_rfl) (hH43.front 0 rfl) fun w44 hH45 => ?_)
  refine s_nil ?_
  refine t_norm (hK37 _ _ ?_)
  refine c_region ?_
  refine s_op (o_move (v := (.slice none 0 0)) rfl ?_)
  refine s_op (o_fieldAddr (k := 0) (fun _ => by kernel_rfl) rfl ?_)
  refine s_op (o_load1 (v := (.int .i64 ((k, f.first).1))) Tryz.underlying3 rfl rfl hH45 (seg_sub 0 rfl) (CellsAt.one rfl) ?_)
  refine s_op (o_buildSlice (ps := #[(0, (.int .i64 ((k, f.first).1)))]) (cells := #[(.int .i64 ((k, f.first).1))]) Tryz.underlying40 ti3 (by decide) (parts1 rfl) (by kernel_rfl) hH45 fun b46 w47 hH48 => ?_)
  refine s_op (o_append Tryz.underlying40 ti3 rfl (by decide) rfl (Own.nil 3 1) rfl (sl_lit (f := iV) (l := [(k, f.first).1]) (g := (0, 0)) (T := 3) rfl rfl (by simp)) (Has.nil hH48) (seg_sub 0 rfl) (one_iV _) (by simp) (by simp) fun v49 s50 w52 ho51 hH53 => ?_)
  have ho51 : Own 3 1 v49 [(k, f.first).1].length ([(k, f.first).1].map iV) s50 := Own.app (a := []) ho51
  refine s_op (o_assign (v := v49) rfl ?_)
  refine s_nil ?_
  refine b_norm ?_
  refine t_norm (hK36 _ _ ?_)
  refine c_region ?_
  refine s_op (o_add (a := 0) (b := 1) (c := 1) rfl rfl (by decide) ?_)
  refine s_op (o_move (v := (.int .i64 1)) rfl ?_)
  refine s_nil ?_
  refine t_norm (u_round ?_)
  refine wp_seq_k fun K54 hK54 => ?_
  refine c_region ?_
  refine s_op (o_lss (a := 1) (b := 1) rfl rfl ?_)
  refine s_nil ?_
  refine t_norm (hK54 _ _ ?_)
  refine wp_seq_k fun K55 hK55 => ?_
  refine c_false rfl rfl ?_
  refine wp_exit ?_
  refine t_exit (t_exit (x_in (?_)))
  refine t_norm (hK21 _ _ ?_)
  refine wp_seq_k fun K56 hK56 => ?_
  refine c_region ?_
  refine s_op (o_load1 (v := (.pointer (some ⟨pl, 0, none⟩))) Tryz.underlying65 rfl rfl hH53 (seg_sub 7 rfl) (CellsAt.one rfl) ?_)
  refine s_op (o_move (v := v49) rfl ?_)
  refine s_op (o_makeFunc (vs := #[(.pointer (some ⟨b12, 0, none⟩)), (.pointer (some ⟨b9, 0, none⟩)), (.pointer (some ⟨b16, 0, none⟩))]) (cap3 rfl rfl rfl) ?_)
  have hd58 : BxAt b16 [Hp.one b16 (.cells #[(.int .i64 0)] 3 (0, 0))] (⟨0⟩ : BxS) := rfl
  refine s_op (o_callf (vs := #[(.pointer (some ⟨pl, 0, none⟩)), v49, (.func (.func 80) #[] #[(.pointer (some ⟨b12, 0, none⟩)), (.pointer (some ⟨b9, 0, none⟩)), (.pointer (some ⟨b16, 0, none⟩))])]) ca79 rfl (args3 rfl rfl rfl) (each_ok (v := v) (k := (k, f.first).1) (h := h) (m := (⟨0⟩ : BxS)) (f := f) (kk := kk) ((hH53.front 5 rfl).front 5 rfl).all2 hd30 (ho51.sl.mono (seg_sub 0 rfl)) ((CellsAt.one rfl).mono (seg_sub 4 rfl)) ((CellsAt.one rfl).mono (seg_sub 5 rfl)) hd58 (hg.mono (seg_sub 6 rfl)) (show getB v.fr k = some f from hgk_) hd hle hs0 ⟨by decide, by decide⟩ hok hfw hkk) ?_)
  rintro _ w65 ⟨sg59, sg61, rfl, hd60, hd62, hX63⟩
  refine ⟨_, rfl, ?_⟩
  have hH64 : Has E w65 [sg59, sg61, s50, [Hp.one b46 (.cells #[(.int .i64 ((k, f.first).1))] 3 (0, 0))], [Hp.one b41 (.cells #[(.int .i64 ((k, f.first).1)), (.int .i64 ((k, f.first).2))] 128 (0, 0))], s27, [Hp.one b12 (.cells #[(.int .i64 h)] 3 (0, 0))], [Hp.one b9 (.cells #[(.pointer (some ⟨pl, 0, none⟩))] 65 (0, 0))], R] := hX63.of_all2
  refine s_op (o_assign (v := (.int .i64 0)) rfl ?_)
  refine s_nil ?_
  refine t_norm (hK56 _ _ ?_)
  refine wp_seq_k fun K66 hK66 => ?_
  refine c_region ?_
  obtain rfl := (show sg61 = _ from hd62)
  have hH67 := (hH64.front 1 rfl)
  refine s_op (o_load1 (v := (.int .i64 ((⟨(⟨0⟩ : BxS).n + 1⟩ : BxS).n))) Tryz.underlying3 rfl rfl hH67 (seg_sub 0 rfl) (CellsAt.one rfl) ?_)
  refine s_op (o_move (v := (.int .i64 0)) rfl ?_)
  refine s_op (o_assign (v := (.int .i64 ((⟨(⟨0⟩ : BxS).n + 1⟩ : BxS).n))) rfl ?_)
  refine s_op (o_assign (v := (.int .i64 0)) rfl ?_)
  refine s_nil ?_
  refine t_norm (hK66 _ _ ?_)
  refine wp_ret ?_
  refine c_ret2 Tryz.results39  (v := (.int .i64 ((⟨(⟨0⟩ : BxS).n + 1⟩ : BxS).n))) rfl (x := (.int .i64 0)) rfl ?_
  have q68 : (⟨((st1 v.tw.1 v.tw.2 (pgF f)).2, v.tw.2), v.room, putB v.fr k ⟨f.no, f.gsn, f.cells, false, f.first, f.pins⟩⟩ : PolS) = (⟨((st1 v.tw.1 v.tw.2 (pgF f)).2, v.tw.2), v.room, putB v.fr ((k, f.first).1) ⟨f.no, f.gsn, f.cells, false, f.first, f.pins⟩⟩ : PolS) := by rfl
  have hH69 : Has E w65 [sg59, R] := ((hH67.front 8 rfl).front 2 rfl).first 2 rfl
  exact ⟨_, rfl, (by rw [q68]; exact hd60), hH69⟩
end Go.Q
namespace Go.Q
open Go.Proofs
set_option linter.unusedVariables false
set_option maxRecDepth 100000
attribute [local irreducible] wpList OK Code.wp
theorem new_nilI {E w : World} {R : List Hp} (hH : Has E w [R]) {x : Int} {n : Nat} (hx : x = (n : Int)) (hn : 1 ≤ n ∧ n ≤ 4096) :
    Calls Tryz.prog 14 #[(.pointer none), (.int .i64 x)] w fun e w' => ∃ db pb sg, e = .returned (.pointer (some ⟨db, 0, none⟩)) ∧ DevAt pb sg db (List.replicate n blankS) [] ∧ Has E w' [sg, [Hp.one pb (.cells #[(.bool false), (.bool false), (.int .i64 0), (.int .i64 0)] 101 (0, 0))], R] := by
  subst hx
  exact new_nil hH hn
end Go.Q
namespace Go.Q
open Go.Proofs
set_option linter.unusedVariables false
set_option maxRecDepth 100000
attribute [local irreducible] wpList OK Code.wp
set_option maxHeartbeats 4000000 in
theorem pnew_c {E w : World} {R : List Hp} {tb : Nat} {sg_tb : List Hp} {t : TwS} {n : Int}  (hH : Has E w [sg_tb, R]) (h_tb : TwAt tb sg_tb t) (hn : 1 ≤ n) :
    Calls Tryz.prog 42 #[(.pointer (some ⟨tb, 0, none⟩)), (.int .i64 n)] w fun e w' => ∃ (b1' : Nat) (sg2' : List Hp), e = .returned (.pointer (some ⟨b1', 0, none⟩)) ∧ (PolAt b1' sg2' (⟨t, n, []⟩ : PolS)) ∧ Has E w' [sg2', R] := by
  refine c_enter (args := [(.pointer (some ⟨tb, 0, none⟩)), (.int .i64 n)]) Tryz.func42 rfl Tryz.ntmps42 (by simp) ?_
  refine wp_seq_k fun K1 hK1 => ?_
  refine c_region ?_
  refine s_op (o_assign (v := (.pointer none)) rfl ?_)
  refine s_nil ?_
  refine t_norm (hK1 _ _ ?_)
  refine wp_seq_k fun K2 hK2 => ?_
  refine wp_seq_k fun K3 hK3 => ?_
  refine c_region ?_
  refine s_op (o_move (v := (.pointer (some ⟨tb, 0, none⟩))) rfl ?_)
  refine s_op (o_pnil (p := some _) Tryz.underlying25 rfl rfl ?_)
  refine s_op (o_move (v := (.bool false)) rfl ?_)
  refine s_on 7 rfl rfl (o_move (v := (.int .i64 n)) rfl ?_)
  refine s_on 7 rfl rfl (o_lss (a := n) (b := 1) rfl rfl ?_)
  refine s_op (o_pick_f (u := (.bool (decide (n < 1)))) rfl rfl ?_)
  refine s_nil ?_
  refine t_norm (hK3 _ _ ?_)
  refine c_cond rfl (fun h4 => ?_) (fun h4 => ?_)
  · -- n < 1
    exfalso; omega
  · -- not: n < 1
    refine wp_skip ?_
    refine t_norm (hK2 _ _ ?_)
    refine wp_seq_k fun K5 hK5 => ?_
    refine c_region ?_
    refine s_op (o_move (v := (.pointer (some ⟨tb, 0, none⟩))) rfl ?_)
    refine s_op (o_move (v := (.int .i64 n)) rfl ?_)
    refine s_op (o_makeMap hH fun m6 w7 hH8 => ?_)
    refine s_op (o_sight (v := (.agg #[(.pointer (some ⟨tb, 0, none⟩)), (.int .i64 n), (.map (some m6))])) (fun _ => by kernel_rfl) ?_)
    refine s_op (o_box (cs := #[(.pointer (some ⟨tb, 0, none⟩)), (.int .i64 n), (.map (some m6))]) rfl rfl hH8 fun b9 w10 hH11 => ?_)
    refine s_op (o_assign (v := (.pointer (some ⟨b9, 0, none⟩))) rfl ?_)
    refine s_nil ?_
    refine t_norm (hK5 _ _ ?_)
    refine wp_ret ?_
    refine c_ret1 Tryz.results42  (v := (.pointer (some ⟨b9, 0, none⟩))) rfl ?_
    have hd12 : DirAt iV FrmAt m6 [Hp.one m6 (.map #[] 0)] [] := DirAt.new
    have hH13 : Has E w10 [([Hp.one b9 (.cells #[(.pointer (some ⟨tb, 0, none⟩)), (.int .i64 n), (.map (some m6))] 81 (0, 0))] ++ (sg_tb ++ [Hp.one m6 (.map #[] 0)])), R] := Has.cl3 (((hH11.front 1 rfl).front 2 rfl).front 2 rfl)
    have hd14 : PolAt b9 ([Hp.one b9 (.cells #[(.pointer (some ⟨tb, 0, none⟩)), (.int .i64 n), (.map (some m6))] 81 (0, 0))] ++ (sg_tb ++ [Hp.one m6 (.map #[] 0)])) (⟨t, n, ([] : List (Int × Frm))⟩ : PolS) := PolAt.mk (v := (⟨t, n, ([] : List (Int × Frm))⟩ : PolS)) h_tb hd12
    have q15 : (⟨t, n, []⟩ : PolS) = (⟨t, n, ([] : List (Int × Frm))⟩ : PolS) := by rfl
    exact ⟨_, _, rfl, (by rw [q15]; exact hd14), hH13⟩
set_option maxHeartbeats 4000000 in
theorem begin13_c {E w : World} {R : List Hp} (hH : Has E w [R]) {n room : Int} {m : Nat} (hn : 1 ≤ n ∧ n ≤ 64) (hm : 5 + 4 * n = (m : Int)) (hroom : 1 ≤ room) :
    Calls Tryz.prog 35 #[(.int .i64 n), (.int .i64 room)] w fun e w' => ∃ pl db sg, e = .returned (.tuple #[.pointer (some ⟨pl, 0, none⟩), .pointer (some ⟨db, 0, none⟩)]) ∧ PolAt pl sg (⟨(dm m, n), room, []⟩ : PolS) ∧ Has E w' [sg, R] := by
  refine c_enter (args := [(.int .i64 n), (.int .i64 room)]) Tryz.func35 rfl Tryz.ntmps35 (by simp) ?_
  refine wp_seq_k fun K1 hK1 => ?_
  refine c_region ?_
  refine s_op (o_assign (v := (.pointer none)) rfl ?_)
  refine s_op (o_assign (v := (.pointer none)) rfl ?_)
  refine s_nil ?_
  refine t_norm (hK1 _ _ ?_)
  refine wp_seq_k fun K2 hK2 => ?_
  refine c_region ?_
  refine s_op (o_move (v := (.int .i64 n)) rfl ?_)
  refine s_op (o_mul (a := 4) (b := n) rfl rfl (w64 (by omega) (by omega)) ?_)
  refine s_op (o_add (a := 5) (b := 4 * n) rfl rfl (w64 (by omega) (by omega)) ?_)
  refine s_op (o_callf (vs := #[(.pointer none), (.int .i64 (5 + (4 * n)))]) ca14 rfl (args2 rfl rfl) (new_nilI hH.all (x := 5 + (4 * n)) (n := m) (by omega) (by omega)) ?_)
  rintro _ w9 ⟨db3, pb4, sg5, rfl, hd6, hX7⟩
  refine ⟨_, rfl, ?_⟩
  have hH8 : Has E w9 [sg5, [Hp.one pb4 (.cells #[(.bool (Pw.mk false false 0 0).off), (.bool (Pw.mk false false 0 0).armed), (.int .i64 (Pw.mk false false 0 0).left), (.int .i64 (Pw.mk false false 0 0).uses)] 101 (0, 0))], R] := hX7.of_all2
  refine s_op (o_assign (v := (.pointer (some ⟨db3, 0, none⟩))) rfl ?_)
  refine s_nil ?_
  refine t_norm (hK2 _ _ ?_)
  refine wp_seq_k fun K10 hK10 => ?_
  refine c_region ?_
  refine s_op (o_move (v := (.pointer (some ⟨db3, 0, none⟩))) rfl ?_)
  refine s_op (o_move (v := (.int .i64 n)) rfl ?_)
  refine s_op (o_callf (vs := #[(.pointer (some ⟨db3, 0, none⟩)), (.int .i64 n)]) ca13 rfl (args2 rfl rfl) (tfmt_ok (p := (Pw.mk false false 0 0)) (m := m) ((hH8.front 1 rfl).front 1 rfl).all2 hd6 (n := n) ⟨rfl, rfl⟩ Few.new (by decide) (by omega) hn (by omega)) ?_)
  rintro _ w16 ⟨tb11, sg12, rfl, hd13, hX14⟩
  refine ⟨_, rfl, ?_⟩
  have hH15 : Has E w16 [[Hp.one tb11 (.cells #[(.pointer (some ⟨db3, 0, none⟩)), (.int .i64 n)] 98 (0, 0))], sg12, [Hp.one pb4 (.cells #[(.bool (Pw.mk false false (0 - (((m : Nat) : Int) + 1)) (0 + (((m : Nat) : Int) + 1))).off), (.bool (Pw.mk false false (0 - (((m : Nat) : Int) + 1)) (0 + (((m : Nat) : Int) + 1))).armed), (.int .i64 (Pw.mk false false (0 - (((m : Nat) : Int) + 1)) (0 + (((m : Nat) : Int) + 1))).left), (.int .i64 (Pw.mk false false (0 - (((m : Nat) : Int) + 1)) (0 + (((m : Nat) : Int) + 1))).uses)] 101 (0, 0))], R] := hX14.of_all3
  refine s_op (o_move (v := (.tuple #[(.pointer (some ⟨tb11, 0, none⟩)), (.int .i64 (0 : Int))])) rfl ?_)
  refine s_op (o_extract (v := (.pointer (some ⟨tb11, 0, none⟩))) rfl rfl ?_)
  refine s_op (o_extract (v := (.int .i64 (0 : Int))) rfl rfl ?_)
  refine s_op (o_assign (v := (.pointer (some ⟨tb11, 0, none⟩))) rfl ?_)
  refine s_op (o_assign (v := (.int .i64 (0 : Int))) rfl ?_)
  refine s_nil ?_
  refine t_norm (hK10 _ _ ?_)
  refine wp_seq_k fun K17 hK17 => ?_
  refine wp_seq_k fun K18 hK18 => ?_
  refine c_region ?_
  refine s_op (o_move (v := (.int .i64 (0 : Int))) rfl ?_)
  refine s_op (o_neq (a := (0 : Int)) (b := 0) rfl rfl ?_)
  refine s_nil ?_
  refine t_norm (hK18 _ _ ?_)
  refine c_cond rfl (fun h19 => ?_) (fun h19 => ?_)
  · -- (0 : Int) ≠ 0
    exact absurd rfl h19
  · -- not: (0 : Int) ≠ 0
    refine wp_skip ?_
    refine t_norm (hK17 _ _ ?_)
    refine wp_seq_k fun K20 hK20 => ?_
    refine c_region ?_
    refine s_op (o_move (v := (.pointer (some ⟨tb11, 0, none⟩))) rfl ?_)
    refine s_op (o_move (v := (.int .i64 room)) rfl ?_)
    have ht21_ : TwAt tb11 (sg12 ++ ([Hp.one pb4 (.cells #[(.bool (Pw.mk false false (0 - (((m : Nat) : Int) + 1)) (0 + (((m : Nat) : Int) + 1))).off), (.bool (Pw.mk false false (0 - (((m : Nat) : Int) + 1)) (0 + (((m : Nat) : Int) + 1))).armed), (.int .i64 (Pw.mk false false (0 - (((m : Nat) : Int) + 1)) (0 + (((m : Nat) : Int) + 1))).left), (.int .i64 (Pw.mk false false (0 - (((m : Nat) : Int) + 1)) (0 + (((m : Nat) : Int) + 1))).uses)] 101 (0, 0))] ++ [Hp.one tb11 (.cells #[(.pointer (some ⟨db3, 0, none⟩)), (.int .i64 n)] 98 (0, 0))])) (dm m, n) ∧ Has E w16 [(sg12 ++ ([Hp.one pb4 (.cells #[(.bool (Pw.mk false false (0 - (((m : Nat) : Int) + 1)) (0 + (((m : Nat) : Int) + 1))).off), (.bool (Pw.mk false false (0 - (((m : Nat) : Int) + 1)) (0 + (((m : Nat) : Int) + 1))).armed), (.int .i64 (Pw.mk false false (0 - (((m : Nat) : Int) + 1)) (0 + (((m : Nat) : Int) + 1))).left), (.int .i64 (Pw.mk false false (0 - (((m : Nat) : Int) + 1)) (0 + (((m : Nat) : Int) + 1))).uses)] 101 (0, 0))] ++ [Hp.one tb11 (.cells #[(.pointer (some ⟨db3, 0, none⟩)), (.int .i64 n)] 98 (0, 0))])), R] := TwAt.mk (v := (dm m, n)) hd13 ((hH15.front 2 rfl).front 2 rfl)
    obtain ⟨ht21, hH22⟩ := ht21_
    refine s_op (o_callf (vs := #[(.pointer (some ⟨tb11, 0, none⟩)), (.int .i64 room)]) ca42 rfl (args2 rfl rfl) (pnew_c (t := (dm m, n)) (n := room) hH22.all1 ht21 hroom) ?_)
    rintro _ w28 ⟨b23, sg24, rfl, hd25, hX26⟩
    refine ⟨_, rfl, ?_⟩
    have hH27 : Has E w28 [sg24, R] := hX26.of_all1
    refine s_op (o_move (v := (.pointer (some ⟨db3, 0, none⟩))) rfl ?_)
    refine s_op (o_assign (v := (.pointer (some ⟨b23, 0, none⟩))) rfl ?_)
    refine s_op (o_assign (v := (.pointer (some ⟨db3, 0, none⟩))) rfl ?_)
    refine s_nil ?_
    refine t_norm (hK20 _ _ ?_)
    refine wp_ret ?_
    refine c_ret2 Tryz.results35  (v := (.pointer (some ⟨b23, 0, none⟩))) rfl (x := (.pointer (some ⟨db3, 0, none⟩))) rfl ?_
    exact ⟨_, _, _, rfl, hd25, hH27⟩
end Go.Q
namespace Go.Q
open Go.Proofs
set_option linter.unusedVariables false
set_option maxRecDepth 100000
attribute [local irreducible] wpList OK Code.wp
set_option maxHeartbeats 4000000 in
theorem awake13_c {E w : World} {R : List Hp} (hH : Has E w [R]) (hg : CellsAt R 1 0 nibV) :
    Calls Tryz.prog 34 #[] w fun e w' => e = .returned (.bool true) ∧ Has E w' [R] := by
  refine c_enter (args := []) Tryz.func34 rfl Tryz.ntmps34 (by simp) ?_
  refine wp_seq_k fun K1 hK1 => ?_
  refine c_region ?_
  refine s_op (o_assign (v := (.bool false)) rfl ?_)
  refine s_nil ?_
  refine t_norm (hK1 _ _ ?_)
  refine wp_seq_k fun K2 hK2 => ?_
  refine c_region ?_
  refine s_op (o_callf (vs := #[(.int .i64 3), (.int .i64 2)]) ca35 rfl (args2 rfl rfl) (begin13_c hH.all (n := 3) (room := 2) (m := 17) ⟨by decide, by decide⟩ rfl (by decide)) ?_)
  rintro _ w9 ⟨pl3, db4, sg5, rfl, hp6, hX7⟩
  refine ⟨_, rfl, ?_⟩
  have hH8 : Has E w9 [sg5, R] := hX7.of_all1
  obtain ⟨V0, hV0⟩ : ∃ V_, V_ = (⟨(dm 17, 3), 2, []⟩ : PolS) := ⟨_, rfl⟩
  have hp6_ : PolAt pl3 sg5 V0 := by rw [hV0]; exact hp6
  refine s_op (o_move (v := (.tuple #[(.pointer (some ⟨pl3, 0, none⟩)), (.pointer (some ⟨db4, 0, none⟩))])) rfl ?_)
  refine s_op (o_extract (v := (.pointer (some ⟨pl3, 0, none⟩))) rfl rfl ?_)
  refine s_op (o_extract (v := (.pointer (some ⟨db4, 0, none⟩))) rfl rfl ?_)
  refine s_op (o_assign (v := (.pointer (some ⟨pl3, 0, none⟩))) rfl ?_)
  refine s_op (o_assign (v := (.pointer (some ⟨db4, 0, none⟩))) rfl ?_)
  refine s_nil ?_
  refine t_norm (hK2 _ _ ?_)
  refine wp_seq_k fun K10 hK10 => ?_
  refine c_region ?_
  refine s_op (o_move (v := (.pointer (some ⟨pl3, 0, none⟩))) rfl ?_)
  have hpo_ : (PO V0.tw 1) = ((1, 0, []), 0) := by rw [hV0]; exact dm_po (by decide) (by decide) (by decide) (by decide)
  refine s_op (o_callf (vs := #[(.pointer (some ⟨pl3, 0, none⟩)), (.int .i64 1)]) ca36 rfl (args2 rfl rfl) (get_miss (v := V0) (no := 1) hH8.all1 hp6_ (hg.mono (seg_sub 0 rfl)) (by rw [hV0]; rfl) (by rw [hV0]; decide) (by rw [hV0]; exact (dm_ok (by decide) (by decide) (by decide))) ⟨by decide, by rw [hV0]; decide⟩ (by rw [hpo_]) (by rw [hpo_]; decide)) ?_)
  rintro _ w18 ⟨v11, s12, sg14, rfl, ho13, hd15, hX16⟩
  refine ⟨_, rfl, ?_⟩
  have hH17 : Has E w18 [s12, sg14, R] := hX16.of_all2
  obtain ⟨V1, hV1_⟩ : ∃ V_, V_ = (⟨V0.tw, V0.room, putB V0.fr 1 ⟨(PO V0.tw 1).1.1, (PO V0.tw 1).1.2.1, (PO V0.tw 1).1.2.2, false, 0, 0⟩⟩ : PolS) := ⟨_, rfl⟩
  have hd19 : PolAt pl3 sg14 V1 := by rw [hV1_]; exact hd15
  have hV1 : V1 = (⟨(dm 17, 3), 2, [(1, (⟨1, 0, [], false, 0, 0⟩ : Frm))]⟩ : PolS) := by rw [hV1_]; rw [hpo_, hV0]; rfl
  refine s_op (o_move (v := (.tuple #[(.agg #[(.int .i64 ((PO V0.tw 1).1.1)), (.int .i64 ((PO V0.tw 1).1.2.1)), v11]), (.int .i64 0)])) rfl ?_)
  refine s_op (o_extract (v := (.agg #[(.int .i64 ((PO V0.tw 1).1.1)), (.int .i64 ((PO V0.tw 1).1.2.1)), v11])) rfl rfl ?_)
  refine s_op (o_extract (v := (.int .i64 0)) rfl rfl ?_)
  refine s_op (o_alloc (cs := #[(.int .i64 0), (.int .i64 0), (.slice none 0 0)]) ti36 rfl hH17 fun b20 w21 hH22 => ?_)
  refine s_eff (o_storeN (vs := [(.int .i64 ((PO V0.tw 1).1.1)), (.int .i64 ((PO V0.tw 1).1.2.1)), v11]) (c' := #[(.int .i64 ((PO V0.tw 1).1.1)), (.int .i64 ((PO V0.tw 1).1.2.1)), v11]) ti36 rfl rfl rfl rfl (by intro u hu; simp only [List.mem_cons, List.not_mem_nil, or_false] at hu; rcases hu with rfl | rfl | rfl <;> first | rfl | exact ho13.one) (by simp) (by kernel_rfl) (hH22.front 0 rfl) fun w23 hH24 => ?_)
  refine s_op (o_assign (v := (.int .i64 0)) rfl ?_)
  refine s_nil ?_
  refine t_norm (hK10 _ _ ?_)
  refine wp_seq_k fun K25 hK25 => ?_
  refine c_region ?_
  refine s_op (o_fieldAddr (k := 1) (fun _ => by kernel_rfl) rfl ?_)
  refine s_eff (o_store1 (c' := #[(.int .i64 ((PO V0.tw 1).1.1)), (.int .i64 5), v11]) ti3 rfl rfl rfl (by simp) rfl (hH24.front 0 rfl) fun w26 hH27 => ?_)
  refine s_nil ?_
  refine t_norm (hK25 _ _ ?_)
  refine wp_seq_k fun K28 hK28 => ?_
  refine c_region ?_
  refine s_op (o_move (v := (.pointer (some ⟨pl3, 0, none⟩))) rfl ?_)
  refine s_op (o_loadN (cs := [(.int .i64 ((PO V0.tw 1).1.1)), (.int .i64 5), v11]) Tryz.underlying36 rfl ti36 rfl hH27 (seg_sub 0 rfl) (CellsAt.one rfl) ?_)
  refine s_op (o_callf (vs := #[(.pointer (some ⟨pl3, 0, none⟩)), (.agg #[(.int .i64 ((PO V0.tw 1).1.1)), (.int .i64 5), v11]), (.int .i64 5)]) ca37 rfl (args3 rfl rfl rfl) (change_ok (v := V1) (no := (PO V0.tw 1).1.1) (gsn := 5) (l := ((PO V0.tw 1).1.2.2)) (g := 5) (f := (⟨1, 0, [], false, 0, 0⟩ : Frm)) (hH27.front 2 rfl).all1 hd19 (ho13.sl.mono (seg_sub 1 rfl)) (by rw [hpo_, hV1]; rfl) (by rw [hpo_]; decide) (by decide) rfl (by rw [hpo_]; decide)) ?_)
  rintro _ w33 ⟨sg29, rfl, hd30, hX31⟩
  refine ⟨_, rfl, ?_⟩
  have hH32 : Has E w33 [sg29, [Hp.one b20 (.cells #[(.int .i64 ((PO V0.tw 1).1.1)), (.int .i64 5), v11] 36 (0, 0))], s12, R] := hX31.of_all1
  obtain ⟨V2, hV2_⟩ : ∃ V_, V_ = (⟨V1.tw, V1.room, putB V1.fr ((PO V0.tw 1).1.1) ⟨((PO V0.tw 1).1.1), 5, ((PO V0.tw 1).1.2.2), true, (if (⟨1, 0, [], false, 0, 0⟩ : Frm).dirty = true then (⟨1, 0, [], false, 0, 0⟩ : Frm).first else 5), (⟨1, 0, [], false, 0, 0⟩ : Frm).pins⟩⟩ : PolS) := ⟨_, rfl⟩
  have hd34 : PolAt pl3 sg29 V2 := by rw [hV2_]; exact hd30
  have hV2 : V2 = (⟨(dm 17, 3), 2, [(1, (⟨1, 5, [], true, 5, 0⟩ : Frm))]⟩ : PolS) := by rw [hV2_]; rw [hpo_, hV1]; rfl
  have hfr2_ : V2.fr = [(1, (⟨1, 5, [], true, 5, 0⟩ : Frm))] := congrArg PolS.fr hV2
  refine s_op (o_assign (v := (.int .i64 0)) rfl ?_)
  refine s_nil ?_
  refine t_norm (hK28 _ _ ?_)
  refine wp_seq_k fun K35 hK35 => ?_
  refine c_region ?_
  refine s_op (o_move (v := (.pointer (some ⟨pl3, 0, none⟩))) rfl ?_)
  refine s_op (o_callf (vs := #[(.pointer (some ⟨pl3, 0, none⟩)), (.int .i64 4), (.slice none 0 0)]) ca39 rfl (args3 rfl rfl rfl) (flush_busy (v := V2) (h := 4) (k := 1) (f := (⟨1, 5, [], true, 5, 0⟩ : Frm)) hH32.all1 hd34 (congrArg PolS.fr hV2) (by rw [hfr2_]; intro p hp; rw [List.mem_singleton.1 hp]; rfl) (by rw [hfr2_]; decide) rfl (by decide)) ?_)
  rintro _ w40 ⟨sg36, rfl, hd37, hX38⟩
  refine ⟨_, rfl, ?_⟩
  have hH39 : Has E w40 [sg36, [Hp.one b20 (.cells #[(.int .i64 ((PO V0.tw 1).1.1)), (.int .i64 5), v11] 36 (0, 0))], s12, R] := hX38.of_all1
  refine s_op (o_move (v := (.tuple #[(.int .i64 0), (.int .i64 10)])) rfl ?_)
  refine s_op (o_extract (v := (.int .i64 0)) rfl rfl ?_)
  refine s_op (o_extract (v := (.int .i64 10)) rfl rfl ?_)
  refine s_op (o_assign (v := (.int .i64 0)) rfl ?_)
  refine s_op (o_assign (v := (.int .i64 10)) rfl ?_)
  refine s_nil ?_
  refine t_norm (hK35 _ _ ?_)
  refine wp_seq_k fun K41 hK41 => ?_
  refine c_region ?_
  refine s_op (o_move (v := (.pointer (some ⟨pl3, 0, none⟩))) rfl ?_)
  refine s_op (o_callf (vs := #[(.pointer (some ⟨pl3, 0, none⟩)), (.int .i64 5), (.slice none 0 0)]) ca39 rfl (args3 rfl rfl rfl) (flush_ok (v := V2) (h := 5) (k := 1) (f := (⟨1, 5, [], true, 5, 0⟩ : Frm)) (kk := 18) hH39.all1 hd37 (hg.mono (seg_sub 2 rfl)) (congrArg PolS.fr hV2) (by rw [hfr2_]; intro p hp; rw [List.mem_singleton.1 hp]; rfl) (by rw [hfr2_]; decide) rfl (by decide) (by rw [hV2]; exact ((dm_ts (n := 3) (m := 17) (by decide) (by decide)).ok (a := pgF (⟨1, 5, [], true, 5, 0⟩ : Frm)) (by decide) (by decide +kernel) (by decide)).2.1) (by rw [hV2]; exact (dm_ok (by decide) (by decide) (by decide))) (by rw [hV2]; exact few_fm 17) (by decide)) ?_)
  rintro _ w46 ⟨sg42, rfl, hd43, hX44⟩
  refine ⟨_, rfl, ?_⟩
  have hH45 : Has E w46 [sg42, [Hp.one b20 (.cells #[(.int .i64 ((PO V0.tw 1).1.1)), (.int .i64 5), v11] 36 (0, 0))], s12, R] := hX44.of_all1
  refine s_op (o_move (v := (.tuple #[(.int .i64 1), (.int .i64 0)])) rfl ?_)
  refine s_op (o_extract (v := (.int .i64 1)) rfl rfl ?_)
  refine s_op (o_extract (v := (.int .i64 0)) rfl rfl ?_)
  refine s_op (o_assign (v := (.int .i64 1)) rfl ?_)
  refine s_op (o_assign (v := (.int .i64 0)) rfl ?_)
  refine s_nil ?_
  refine t_norm (hK41 _ _ ?_)
  refine wp_seq_k fun K47 hK47 => ?_
  refine c_region ?_
  refine s_op (o_move (v := (.pointer (some ⟨pl3, 0, none⟩))) rfl ?_)
  refine s_op (o_pnnil (p := some _) Tryz.underlying65 rfl rfl ?_)
  refine s_op (o_move (v := (.bool true)) rfl ?_)
  refine s_on 35 rfl rfl (o_move (v := (.int .i64 0)) rfl ?_)
  refine s_on 35 rfl rfl (o_eql (a := 0) (b := 0) rfl rfl ?_)
  refine s_op (o_pick_t (u := (.bool (decide ((0 : Int) = (0 : Int))))) rfl rfl ?_)
  refine s_op (o_move (v := (.bool (decide ((0 : Int) = (0 : Int))))) rfl ?_)
  by_cases h48 : (0 : Int) = (0 : Int)
  · -- (0 : Int) = (0 : Int)
    refine s_on 39 rfl (congrArg Value.bool (decide_eq_true h48)) (o_move (v := (.int .i64 0)) rfl ?_)
    refine s_on 39 rfl (congrArg Value.bool (decide_eq_true h48)) (o_eql (a := 0) (b := 0) rfl rfl ?_)
    refine s_op (o_pick_t (u := (.bool (decide ((0 : Int) = (0 : Int))))) ((rfl : _ = _).trans (congrArg Value.bool (decide_eq_true h48))) rfl ?_)
    refine s_op (o_move (v := (.bool (decide ((0 : Int) = (0 : Int))))) rfl ?_)
    refine s_on 43 rfl (congrArg Value.bool (decide_eq_true h48)) (o_move (v := (.int .i64 10)) rfl ?_)
    refine s_on 43 rfl (congrArg Value.bool (decide_eq_true h48)) (o_eql (a := 10) (b := 10) rfl rfl ?_)
    refine s_op (o_pick_t (u := (.bool (decide ((10 : Int) = (10 : Int))))) ((rfl : _ = _).trans (congrArg Value.bool (decide_eq_true h48))) rfl ?_)
    refine s_op (o_move (v := (.bool (decide ((10 : Int) = (10 : Int))))) rfl ?_)
    by_cases h49 : (10 : Int) = (10 : Int)
    · -- (10 : Int) = (10 : Int)
      refine s_on 47 rfl (congrArg Value.bool (decide_eq_true h49)) (o_move (v := (.int .i64 1)) rfl ?_)
      refine s_on 47 rfl (congrArg Value.bool (decide_eq_true h49)) (o_eql (a := 1) (b := 1) rfl rfl ?_)
      refine s_op (o_pick_t (u := (.bool (decide ((1 : Int) = (1 : Int))))) ((rfl : _ = _).trans (congrArg Value.bool (decide_eq_true h49))) rfl ?_)
      refine s_op (o_move (v := (.bool (decide ((1 : Int) = (1 : Int))))) rfl ?_)
      by_cases h50 : (1 : Int) = (1 : Int)
      · -- (1 : Int) = (1 : Int)
        refine s_on 51 rfl (congrArg Value.bool (decide_eq_true h50)) (o_move (v := (.int .i64 0)) rfl ?_)
        refine s_on 51 rfl (congrArg Value.bool (decide_eq_true h50)) (o_eql (a := 0) (b := 0) rfl rfl ?_)
        refine s_op (o_pick_t (u := (.bool (decide ((0 : Int) = (0 : Int))))) ((rfl : _ = _).trans (congrArg Value.bool (decide_eq_true h50))) rfl ?_)
        refine s_op (o_assign (v := (.bool (decide ((0 : Int) = (0 : Int))))) rfl ?_)
        refine s_nil ?_
        refine t_norm (hK47 _ _ ?_)
        refine wp_ret ?_
        refine c_ret1 Tryz.results34  (v := (.bool (decide ((0 : Int) = (0 : Int))))) rfl ?_
        have hH51 : Has E w46 [R] := (hH45.front 3 rfl).first 1 rfl
        exact ⟨by first | rfl | (rw [decide_eq_true (by decide)]), hH51⟩
      · -- not: (1 : Int) = (1 : Int)
        exact absurd h50 (by decide)
    · -- not: (10 : Int) = (10 : Int)
      exact absurd h49 (by decide)
  · -- not: (0 : Int) = (0 : Int)
    exact absurd h48 (by decide)
end Go.Q
namespace Go.Q
open Go.Proofs
set_option linter.unusedVariables false
set_option maxRecDepth 100000
attribute [local irreducible] wpList OK Code.wp
end Go.Q
namespace Go.Q
open Go.Proofs
set_option linter.unusedVariables false
set_option maxRecDepth 100000
attribute [local irreducible] wpList OK Code.wp
set_option maxHeartbeats 4000000 in
theorem r11great_c {E w : World} {R : List Hp} {no : Int} {gsn : Int} {v_l : Value} {l : List Cel}  (hH : Has E w [R]) (h_l : Sl R 2 v_l l.length (l.flatMap ceC)) :
    Calls Tryz.prog 26 #[(.agg #[(.int .i64 no), (.int .i64 gsn), v_l])] w fun e w' => ∃ (gb : Bool), e = .returned (.bool gb) ∧ (gb = false → l.length ≤ 20 ∧ ∀ c ∈ l, c.1.length ≤ 100 ∧ c.2.length ≤ 100) ∧ Has E w' [R] := by
  have hn_ := h_l.le
  refine c_enter (args := [(.agg #[(.int .i64 no), (.int .i64 gsn), v_l])]) Tryz.func26 rfl Tryz.ntmps26 (by simp) ?_
  refine wp_seq_k fun K1 hK1 => ?_
  refine c_region ?_
  refine s_op (o_box (cs := #[(.int .i64 no), (.int .i64 gsn), v_l]) rfl rfl hH fun b2 w3 hH4 => ?_)
  refine s_op (o_assign (v := (.bool false)) rfl ?_)
  refine s_nil ?_
  refine t_norm (hK1 _ _ ?_)
  refine wp_seq_k fun K5 hK5 => ?_
  refine wp_seq_k fun K6 hK6 => ?_
  refine c_region ?_
  refine s_op (o_fieldAddr (k := 2) (fun _ => by kernel_rfl) rfl ?_)
  refine s_op (o_load1 (v := v_l) Tryz.underlying34 rfl rfl hH4 (seg_sub 0 rfl) (CellsAt.one rfl) ?_)
  refine s_op (o_lenS Tryz.underlying34 rfl h_l ?_)
  refine s_op (o_gtr (a := ((l.length : Nat) : Int)) (b := 20) rfl rfl ?_)
  refine s_nil ?_
  refine t_norm (hK6 _ _ ?_)
  refine c_cond rfl (fun h7 => ?_) (fun h7 => ?_)
  · -- 20 < ((l.length : Nat) : Int)
    refine wp_seq_k fun K8 hK8 => ?_
    refine c_region ?_
    refine s_op (o_assign (v := (.bool true)) rfl ?_)
    refine s_nil ?_
    refine t_norm (hK8 _ _ ?_)
    refine wp_ret ?_
    refine t_ret (c_ret1 Tryz.results26  (v := (.bool true)) rfl ?_)
    have hH9 : Has E w3 [R] := (hH4.front 1 rfl).first 1 rfl
    exact ⟨true, rfl, (fun g => by cases g), hH9⟩
  · -- not: 20 < ((l.length : Nat) : Int)
    refine wp_skip ?_
    refine t_norm (hK5 _ _ ?_)
    refine wp_seq_k fun K10 hK10 => ?_
    refine wp_seq_k fun K11 hK11 => ?_
    refine c_region ?_
    refine s_op (o_assign (v := (.int .i64 0)) rfl ?_)
    refine s_nil ?_
    refine t_norm (hK11 _ _ ?_)
    refine wp_block ?_
    let I13 : Nat → (Nat → Value) → World → Prop := fun n__ r__ w__ => ∃ (k : Nat), n__ = l.length - k ∧ Has E w__ [[Hp.one b2 (.cells #[(.int .i64 no), (.int .i64 gsn), v_l] 36 (0, 0))], R] ∧ (k ≤ l.length) ∧ (∀ c ∈ l.take k, c.1.length ≤ 100 ∧ c.2.length ≤ 100) ∧ r__ 0 = (.agg #[(.int .i64 no), (.int .i64 gsn), v_l]) ∧ r__ 1 = (.pointer (some ⟨b2, 0, none⟩)) ∧ r__ 3 = (.int .i64 (k : Int)) ∧ r__ 7 = (.bool (decide (20 < ((l.length : Nat) : Int))))
    refine c_loop I13 _ ⟨0, rfl, hH4, Nat.zero_le _, (by simp), rfl, rfl, rfl, rfl⟩ ?_
    rintro n_ r16 w14 ⟨k, rfl, hH15, hk, hgf, e12_0, e12_1, e12_3, e12_7⟩
    refine wp_seq_k fun K17 hK17 => ?_
    refine wp_seq_k fun K18 hK18 => ?_
    refine c_region ?_
    refine s_op (o_move (v := (.int .i64 (k : Int))) e12_3 ?_)
    refine s_op (o_fieldAddr (k := 2) (fun _ => by kernel_rfl) e12_1 ?_)
    refine s_op (o_load1 (v := v_l) Tryz.underlying34 rfl rfl hH15 (seg_sub 0 rfl) (CellsAt.one rfl) ?_)
    refine s_op (o_lenS Tryz.underlying34 rfl h_l ?_)
    refine s_op (o_lss (a := (k : Int)) (b := ((l.length : Nat) : Int)) rfl rfl ?_)
    refine s_nil ?_
    refine t_norm (hK18 _ _ ?_)
    refine c_cond rfl (fun h19 => ?_) (fun h19 => ?_)
    · -- (k : Int) < ((l.length : Nat) : Int)
      refine wp_skip ?_
      refine t_norm (hK17 _ _ ?_)
      refine wp_seq_k fun K20 hK20 => ?_
      refine wp_block ?_
      refine wp_seq_k fun K21 hK21 => ?_
      refine c_region ?_
      refine s_op (o_fieldAddr (k := 2) (fun _ => by kernel_rfl) e12_1 ?_)
      refine s_op (o_load1 (v := v_l) Tryz.underlying34 rfl rfl hH15 (seg_sub 0 rfl) (CellsAt.one rfl) ?_)
      refine s_op (o_move (v := (.int .i64 (k : Int))) e12_3 ?_)
      obtain ⟨x25, hx26⟩ : ∃ x_, l[((k : Int)).toNat]? = some x_ := get_some (by omega)
      refine s_op (o_indexF ceC_len Tryz.underlying34 ti70 rfl h_l rfl rfl (by omega) hx26 fun b22 o23 hc24 => ?_)
      refine s_op (o_fieldAddr (k := o23) (fun _ => by kernel_rfl) rfl ?_)
      refine s_op (o_load1 (v := (S x25.1)) Tryz.underlying9 rfl rfl hH15 (seg_sub 1 rfl) (CellsAt.field (k := 0) (ds := [(S x25.1)]) hc24 rfl) ?_)
      refine s_op (o_slen Tryz.underlying9 rfl ?_)
      refine s_op (o_gtr (a := (x25.1.length : Int)) (b := 100) rfl rfl ?_)
      refine s_op (o_move (v := (.bool (decide (100 < (x25.1.length : Int))))) rfl ?_)
      by_cases h27 : 100 < (x25.1.length : Int)
      · -- 100 < (x25.1.length : Int)
        refine s_off (b' := true) 23 rfl (congrArg Value.bool (decide_eq_true h27)) rfl ?_
        refine s_off (b' := true) 23 rfl (congrArg Value.bool (decide_eq_true h27)) rfl ?_
        refine s_off (b' := true) 23 rfl (congrArg Value.bool (decide_eq_true h27)) rfl ?_
        refine s_off (b' := true) 23 rfl (congrArg Value.bool (decide_eq_true h27)) rfl ?_
        refine s_off (b' := true) 23 rfl (congrArg Value.bool (decide_eq_true h27)) rfl ?_
        refine s_off (b' := true) 23 rfl (congrArg Value.bool (decide_eq_true h27)) rfl ?_
        refine s_off (b' := true) 23 rfl (congrArg Value.bool (decide_eq_true h27)) rfl ?_
        refine s_off (b' := true) 23 rfl (congrArg Value.bool (decide_eq_true h27)) rfl ?_
        refine s_op (o_pick_t (u := (.bool true)) ((rfl : _ = _).trans (congrArg Value.bool (decide_eq_true h27))) rfl ?_)
        refine s_nil ?_
        refine t_norm (hK21 _ _ ?_)
        refine c_true rfl rfl ?_
        refine wp_seq_k fun K28 hK28 => ?_
        refine c_region ?_
        refine s_op (o_assign (v := (.bool true)) rfl ?_)
        refine s_nil ?_
        refine t_norm (hK28 _ _ ?_)
        refine wp_ret ?_
        refine b_ret (t_ret (t_ret (b_ret (t_ret (c_ret1 Tryz.results26  (v := (.bool true)) rfl ?_)))))
        have hH29 : Has E w14 [R] := (hH15.front 1 rfl).first 1 rfl
        exact ⟨true, rfl, (fun g => by cases g), hH29⟩
      · -- not: 100 < (x25.1.length : Int)
        refine s_on 23 rfl (congrArg Value.bool (decide_eq_false h27)) (o_fieldAddr (k := 2) (fun _ => by kernel_rfl) e12_1 ?_)
        refine s_on 23 rfl (congrArg Value.bool (decide_eq_false h27)) (o_load1 (v := v_l) Tryz.underlying34 rfl rfl hH15 (seg_sub 0 rfl) (CellsAt.one rfl) ?_)
        refine s_on 23 rfl (congrArg Value.bool (decide_eq_false h27)) (o_move (v := (.int .i64 (k : Int))) e12_3 ?_)
        refine s_on 23 rfl (congrArg Value.bool (decide_eq_false h27)) (o_indexF ceC_len Tryz.underlying34 ti70 rfl h_l rfl rfl (by omega) hx26 fun b30 o31 hc32 => ?_)
        refine s_on 23 rfl (congrArg Value.bool (decide_eq_false h27)) (o_fieldAddr (k := o31 + 1) (fun _ => by kernel_rfl) rfl ?_)
        refine s_on 23 rfl (congrArg Value.bool (decide_eq_false h27)) (o_load1 (v := (S x25.2)) Tryz.underlying9 rfl rfl hH15 (seg_sub 1 rfl) (CellsAt.field (k := 1) (ds := [(S x25.2)]) hc32 rfl) ?_)
        refine s_on 23 rfl (congrArg Value.bool (decide_eq_false h27)) (o_slen Tryz.underlying9 rfl ?_)
        refine s_on 23 rfl (congrArg Value.bool (decide_eq_false h27)) (o_gtr (a := (x25.2.length : Int)) (b := 100) rfl rfl ?_)
        refine s_op (o_pick_f (u := (.bool (decide (100 < (x25.2.length : Int))))) ((rfl : _ = _).trans (congrArg Value.bool (decide_eq_false h27))) rfl ?_)
        refine s_nil ?_
        refine t_norm (hK21 _ _ ?_)
        refine c_cond rfl (fun h33 => ?_) (fun h33 => ?_)
        · -- 100 < (x25.2.length : Int)
          refine wp_seq_k fun K34 hK34 => ?_
          refine c_region ?_
          refine s_op (o_assign (v := (.bool true)) rfl ?_)
          refine s_nil ?_
          refine t_norm (hK34 _ _ ?_)
          refine wp_ret ?_
          refine b_ret (t_ret (t_ret (b_ret (t_ret (c_ret1 Tryz.results26  (v := (.bool true)) rfl ?_)))))
          have hH35 : Has E w14 [R] := (hH15.front 1 rfl).first 1 rfl
          exact ⟨true, rfl, (fun g => by cases g), hH35⟩
        · -- not: 100 < (x25.2.length : Int)
          refine wp_skip ?_
          refine b_norm ?_
          refine t_norm (hK20 _ _ ?_)
          refine c_region ?_
          refine s_op (o_move (v := (.int .i64 (k : Int))) e12_3 ?_)
          refine s_op (o_add (a := (k : Int)) (b := 1) rfl rfl (w64 (by omega) (by omega)) ?_)
          refine s_op (o_assign (v := (.int .i64 ((k : Int) + 1))) rfl ?_)
          refine s_nil ?_
          refine t_norm ⟨l.length - (k + 1), _, rfl, ?_, ?_⟩
          · omega
          · exact ⟨(k + 1), rfl, hH15, (by omega), (great_next hgf (show l[k]? = some _ from hx26) (by omega)), e12_0, e12_1, rfl, e12_7⟩
    · -- not: (k : Int) < ((l.length : Nat) : Int)
      refine wp_exit ?_
      refine t_exit (t_exit (x_in (?_)))
      refine t_norm (hK10 _ _ ?_)
      refine wp_seq_k fun K36 hK36 => ?_
      refine c_region ?_
      refine s_op (o_assign (v := (.bool false)) rfl ?_)
      refine s_nil ?_
      refine t_norm (hK36 _ _ ?_)
      refine wp_ret ?_
      refine c_ret1 Tryz.results26  (v := (.bool false)) rfl ?_
      have hH37 : Has E w14 [R] := (hH15.front 1 rfl).first 1 rfl
      have e_ : k = l.length := by omega
      rw [e_, List.take_length] at hgf
      exact ⟨false, rfl, (fun _ => ⟨by omega, hgf⟩), hH37⟩
end Go.Q
namespace Go.Q
open Go.Proofs
set_option linter.unusedVariables false
set_option maxRecDepth 100000
attribute [local irreducible] wpList OK Code.wp
set_option maxHeartbeats 4000000 in
theorem PoolNone_c {E w : World} {R : List Hp} (hH : Has E w [R]) (hg : CellsAt R 1 0 nibV) {n : Int} {a : Pg} (hin : PgIn R a) :
    Calls Tryz.prog 9 #[(.int .i64 n), (.agg #[(.int .i64 a.1), (.int .i64 a.2.1), a.2.2.1])] w fun e w' => e = .returned (.bool true) ∧ Has E w' [R] := by
  have hcn_ := Sl.le hin
  refine c_enter (args := [(.int .i64 n), (.agg #[(.int .i64 a.1), (.int .i64 a.2.1), a.2.2.1])]) Tryz.func9 rfl Tryz.ntmps9 (by simp) ?_
  refine wp_seq_k fun K1 hK1 => ?_
  refine c_region ?_
  refine s_op (o_box (cs := #[(.int .i64 a.1), (.int .i64 a.2.1), a.2.2.1]) rfl rfl hH fun b2 w3 hH4 => ?_)
  refine s_op (o_assign (v := (.bool false)) rfl ?_)
  refine s_nil ?_
  refine t_norm (hK1 _ _ ?_)
  refine wp_seq_k fun K5 hK5 => ?_
  refine wp_seq_k fun K6 hK6 => ?_
  refine c_region ?_
  refine s_op (o_loadN (cs := [(.int .i64 a.1), (.int .i64 a.2.1), a.2.2.1]) Tryz.underlying36 rfl ti36 rfl hH4 (seg_sub 0 rfl) (CellsAt.one rfl) ?_)
  refine s_op (o_callf (vs := #[(.agg #[(.int .i64 a.1), (.int .i64 a.2.1), a.2.2.1])]) ca26 rfl (args1 rfl) (r11great_c (no := a.1) (gsn := a.2.1) (l := a.2.2.2) hH4.all (hin.mono (seg_sub 1 rfl))) ?_)
  rintro _ w11 ⟨gb_7, rfl, hg_8, hX9⟩
  refine ⟨_, rfl, ?_⟩
  have hH10 : Has E w11 [[Hp.one b2 (.cells #[(.int .i64 a.1), (.int .i64 a.2.1), a.2.2.1] 36 (0, 0))], R] := hX9.of_all
  refine s_op (o_move (v := (.bool gb_7)) rfl ?_)
  rcases Bool.eq_false_or_eq_true gb_7 with h12 | h12
  · -- gb_7
    refine s_off (b' := true) 16 rfl (congrArg Value.bool h12) rfl ?_
    refine s_off (b' := true) 16 rfl (congrArg Value.bool h12) rfl ?_
    refine s_op (o_pick_t (u := (.bool true)) ((rfl : _ = _).trans (congrArg Value.bool h12)) rfl ?_)
    refine s_nil ?_
    refine t_norm (hK6 _ _ ?_)
    refine c_true rfl rfl ?_
    refine wp_seq_k fun K13 hK13 => ?_
    refine c_region ?_
    refine s_op (o_callf (vs := #[]) ca34 rfl (args0) (awake13_c hH10.all (hg.mono (seg_sub 1 rfl))) ?_)
    rintro _ w16 ⟨rfl, hX14⟩
    refine ⟨_, rfl, ?_⟩
    have hH15 := hX14.of_all
    refine s_op (o_assign (v := (.bool true)) rfl ?_)
    refine s_nil ?_
    refine t_norm (hK13 _ _ ?_)
    refine wp_ret ?_
    refine t_ret (c_ret1 Tryz.results9  (v := (.bool true)) rfl ?_)
    have hH17 : Has E w16 [R] := (hH15.front 1 rfl).first 1 rfl
    exact ⟨by first | rfl | (rw [decide_eq_true (by decide)]) | (simp [trivial]), hH17⟩
  · -- not: gb_7
    refine s_on 16 rfl (congrArg Value.bool h12) (o_callf (vs := #[]) ca34 rfl (args0) (awake13_c hH10.all (hg.mono (seg_sub 1 rfl))) ?_)
    rintro _ w20 ⟨rfl, hX18⟩
    refine ⟨_, rfl, ?_⟩
    have hH19 := hX18.of_all
    refine s_on 16 rfl (congrArg Value.bool h12) (o_not rfl ?_)
    refine s_op (o_pick_f (u := (.bool false)) ((rfl : _ = _).trans (congrArg Value.bool h12)) rfl ?_)
    refine s_nil ?_
    refine t_norm (hK6 _ _ ?_)
    refine c_false rfl rfl ?_
    refine wp_skip ?_
    refine t_norm (hK5 _ _ ?_)
    refine wp_seq_k fun K21 hK21 => ?_
    refine c_region ?_
    refine s_op (o_callf (vs := #[(.pointer none), (.int .i64 20)]) ca14 rfl (args2 rfl rfl) (new_nil hH19.all (n := 20) (by decide)) ?_)
    rintro _ w28 ⟨db22, pb23, sg24, rfl, hd25, hX26⟩
    refine ⟨_, rfl, ?_⟩
    have hH27 : Has E w28 [sg24, [Hp.one pb23 (.cells #[(.bool (Pw.mk false false 0 0).off), (.bool (Pw.mk false false 0 0).armed), (.int .i64 (Pw.mk false false 0 0).left), (.int .i64 (Pw.mk false false 0 0).uses)] 101 (0, 0))], [Hp.one b2 (.cells #[(.int .i64 a.1), (.int .i64 a.2.1), a.2.2.1] 36 (0, 0))], R] := hX26.of_all2
    refine s_op (o_callf (vs := #[(.pointer (some ⟨db22, 0, none⟩)), (.int .i64 2)]) ca13 rfl (args2 rfl rfl) (tfmt_ok (p := (Pw.mk false false 0 0)) (m := 20) ((hH27.front 1 rfl).front 1 rfl).all2 hd25 (n := 2) ⟨rfl, rfl⟩ Few.new (by decide) (by decide) (by decide) (by decide)) ?_)
    rintro _ w34 ⟨tb29, sg30, rfl, hd31, hX32⟩
    refine ⟨_, rfl, ?_⟩
    have hH33 : Has E w34 [[Hp.one tb29 (.cells #[(.pointer (some ⟨db22, 0, none⟩)), (.int .i64 2)] 98 (0, 0))], sg30, [Hp.one pb23 (.cells #[(.bool (Pw.mk false false (0 - (((20 : Nat) : Int) + 1)) (0 + (((20 : Nat) : Int) + 1))).off), (.bool (Pw.mk false false (0 - (((20 : Nat) : Int) + 1)) (0 + (((20 : Nat) : Int) + 1))).armed), (.int .i64 (Pw.mk false false (0 - (((20 : Nat) : Int) + 1)) (0 + (((20 : Nat) : Int) + 1))).left), (.int .i64 (Pw.mk false false (0 - (((20 : Nat) : Int) + 1)) (0 + (((20 : Nat) : Int) + 1))).uses)] 101 (0, 0))], [Hp.one b2 (.cells #[(.int .i64 a.1), (.int .i64 a.2.1), a.2.2.1] 36 (0, 0))], R] := hX32.of_all3
    refine s_op (o_move (v := (.tuple #[(.pointer (some ⟨tb29, 0, none⟩)), (.int .i64 (0 : Int))])) rfl ?_)
    refine s_op (o_extract (v := (.pointer (some ⟨tb29, 0, none⟩))) rfl rfl ?_)
    refine s_op (o_extract (v := (.int .i64 (0 : Int))) rfl rfl ?_)
    refine s_op (o_assign (v := (.pointer (some ⟨tb29, 0, none⟩))) rfl ?_)
    refine s_op (o_assign (v := (.int .i64 (0 : Int))) rfl ?_)
    refine s_nil ?_
    refine t_norm (hK21 _ _ ?_)
    refine wp_seq_k fun K35 hK35 => ?_
    refine c_region ?_
    refine s_op (o_assign (v := (.pointer none)) rfl ?_)
    refine s_nil ?_
    refine t_norm (hK35 _ _ ?_)
    refine wp_seq_k fun K36 hK36 => ?_
    refine c_region ?_
    refine s_op (o_move (v := (.pointer none)) rfl ?_)
    refine s_op (o_move (v := (.int .i64 n)) rfl ?_)
    refine s_op (o_callf (vs := #[(.pointer none), (.int .i64 n)]) ca36 rfl (args2 rfl rfl) (pget_nil hH33.all n) ?_)
    rintro _ w39 ⟨rfl, hX37⟩
    refine ⟨_, rfl, ?_⟩
    have hH38 := hX37.of_all
    refine s_op (o_move (v := (.tuple #[(.agg #[(.int .i64 0), (.int .i64 0), (.slice none 0 0)]), (.int .i64 (1 : Int))])) rfl ?_)
    refine s_op (o_extract (v := (.agg #[(.int .i64 0), (.int .i64 0), (.slice none 0 0)])) rfl rfl ?_)
    refine s_op (o_extract (v := (.int .i64 (1 : Int))) rfl rfl ?_)
    refine s_op (o_alloc (cs := #[(.int .i64 0), (.int .i64 0), (.slice none 0 0)]) ti36 rfl hH38 fun b40 w41 hH42 => ?_)
    refine s_eff (o_storeN (vs := [(.int .i64 0), (.int .i64 0), (.slice none 0 0)]) (c' := #[(.int .i64 0), (.int .i64 0), (.slice none 0 0)]) ti36 rfl rfl rfl rfl (by intro u hu; simp only [List.mem_cons, List.not_mem_nil, or_false] at hu; rcases hu with rfl | rfl | rfl <;> first | rfl) (by simp) (by kernel_rfl) (hH42.front 0 rfl) fun w43 hH44 => ?_)
    refine s_op (o_assign (v := (.int .i64 (1 : Int))) rfl ?_)
    refine s_nil ?_
    refine t_norm (hK36 _ _ ?_)
    refine wp_seq_k fun K45 hK45 => ?_
    refine c_region ?_
    refine s_op (o_move (v := (.pointer none)) rfl ?_)
    refine s_op (o_move (v := (.int .i64 n)) rfl ?_)
    refine s_op (o_callf (vs := #[(.pointer none), (.int .i64 n), (.slice none 0 0)]) ca39 rfl (args3 rfl rfl rfl) (pflush_nil hH44.all n) ?_)
    rintro _ w48 ⟨rfl, hX46⟩
    refine ⟨_, rfl, ?_⟩
    have hH47 := hX46.of_all
    refine s_op (o_move (v := (.tuple #[(.int .i64 (0 : Int)), (.int .i64 (1 : Int))])) rfl ?_)
    refine s_op (o_extract (v := (.int .i64 (0 : Int))) rfl rfl ?_)
    refine s_op (o_extract (v := (.int .i64 (1 : Int))) rfl rfl ?_)
    refine s_op (o_assign (v := (.int .i64 (0 : Int))) rfl ?_)
    refine s_op (o_assign (v := (.int .i64 (1 : Int))) rfl ?_)
    refine s_nil ?_
    refine t_norm (hK45 _ _ ?_)
    refine wp_seq_k fun K49 hK49 => ?_
    refine c_region ?_
    refine s_op (o_move (v := (.pointer none)) rfl ?_)
    refine s_op (o_callf (vs := #[(.pointer none)]) ca41 rfl (args1 rfl) (poldest_nil hH47.all) ?_)
    rintro _ w52 ⟨rfl, hX50⟩
    refine ⟨_, rfl, ?_⟩
    have hH51 := hX50.of_all
    refine s_op (o_move (v := (.tuple #[(.int .i64 (0 : Int)), (.bool false)])) rfl ?_)
    refine s_op (o_extract (v := (.int .i64 (0 : Int))) rfl rfl ?_)
    refine s_op (o_extract (v := (.bool false)) rfl rfl ?_)
    refine s_op (o_assign (v := (.int .i64 (0 : Int))) rfl ?_)
    refine s_op (o_assign (v := (.bool false)) rfl ?_)
    refine s_nil ?_
    refine t_norm (hK49 _ _ ?_)
    refine wp_seq_k fun K53 hK53 => ?_
    refine c_region ?_
    refine s_op (o_move (v := (.int .i64 (0 : Int))) rfl ?_)
    refine s_op (o_eql (a := (0 : Int)) (b := 0) rfl rfl ?_)
    refine s_op (o_move (v := (.bool (decide ((0 : Int) = 0)))) rfl ?_)
    by_cases h54 : (0 : Int) = 0
    · -- (0 : Int) = 0
      refine s_on 45 rfl (congrArg Value.bool (decide_eq_true h54)) (o_callf (vs := #[(.pointer none), (.int .i64 3)]) ca42 rfl (args2 rfl rfl) (pnew_nil hH51.all 3) ?_)
      rintro _ w57 ⟨rfl, hX55⟩
      refine ⟨_, rfl, ?_⟩
      have hH56 := hX55.of_all
      refine s_on 45 rfl (congrArg Value.bool (decide_eq_true h54)) (o_pnil (p := none) Tryz.underlying65 rfl rfl ?_)
      refine s_op (o_pick_t (u := (.bool true)) ((rfl : _ = _).trans (congrArg Value.bool (decide_eq_true h54))) rfl ?_)
      refine s_op (o_move (v := (.bool true)) rfl ?_)
      refine s_on 49 rfl rfl (o_move (v := (.pointer (some ⟨tb29, 0, none⟩))) rfl ?_)
      refine s_on 49 rfl rfl (o_move (v := (.int .i64 n)) rfl ?_)
      by_cases hc58 : 1 ≤ n
      · -- yes
        refine s_on 49 rfl rfl (o_callf (vs := #[(.pointer (some ⟨tb29, 0, none⟩)), (.int .i64 n)]) ca42 rfl (args2 rfl rfl) (pnew_some hH56.all (tb := tb29) (x := n) hc58) ?_)
        rintro _ w62 ⟨pl59, rfl, hX60⟩
        refine ⟨_, rfl, ?_⟩
        have hH61 : Has E w62 [[Hp.one b40 (.cells #[(.int .i64 0), (.int .i64 0), (.slice none 0 0)] 36 (0, 0))], [Hp.one tb29 (.cells #[(.pointer (some ⟨db22, 0, none⟩)), (.int .i64 2)] 98 (0, 0))], sg30, [Hp.one pb23 (.cells #[(.bool (Pw.mk false false (0 - (((20 : Nat) : Int) + 1)) (0 + (((20 : Nat) : Int) + 1))).off), (.bool (Pw.mk false false (0 - (((20 : Nat) : Int) + 1)) (0 + (((20 : Nat) : Int) + 1))).armed), (.int .i64 (Pw.mk false false (0 - (((20 : Nat) : Int) + 1)) (0 + (((20 : Nat) : Int) + 1))).left), (.int .i64 (Pw.mk false false (0 - (((20 : Nat) : Int) + 1)) (0 + (((20 : Nat) : Int) + 1))).uses)] 101 (0, 0))], [Hp.one b2 (.cells #[(.int .i64 a.1), (.int .i64 a.2.1), a.2.2.1] 36 (0, 0))], R] := hX60.of_all
        refine s_on 49 rfl rfl (o_pnnil (p := some _) Tryz.underlying65 rfl rfl ?_)
        refine s_on 49 rfl rfl (o_move (v := (.int .i64 n)) rfl ?_)
        refine s_on 49 rfl rfl (o_geq (a := n) (b := 1) rfl rfl ?_)
        refine s_on 49 rfl rfl (o_eqlb Tryz.underlying4 rfl rfl ?_)
        refine s_op (o_pick_t (u := (.bool (true == (decide (1 ≤ n))))) rfl rfl ?_)
        refine s_op (o_move (v := (.bool (true == (decide (1 ≤ n))))) rfl ?_)
        rcases Bool.eq_false_or_eq_true (true == (decide (1 ≤ n))) with h63 | h63
        · -- true == (decide (1 ≤ n))
          refine s_on 58 rfl (congrArg Value.bool h63) (o_move (v := (.int .i64 (1 : Int))) rfl ?_)
          refine s_on 58 rfl (congrArg Value.bool h63) (o_eql (a := (1 : Int)) (b := 1) rfl rfl ?_)
          refine s_op (o_pick_t (u := (.bool (decide ((1 : Int) = 1)))) ((rfl : _ = _).trans (congrArg Value.bool h63)) rfl ?_)
          refine s_op (o_move (v := (.bool (decide ((1 : Int) = 1)))) rfl ?_)
          by_cases h64 : (1 : Int) = 1
          · -- (1 : Int) = 1
            refine s_on 62 rfl (congrArg Value.bool (decide_eq_true h64)) (o_move (v := (.int .i64 (1 : Int))) rfl ?_)
            refine s_on 62 rfl (congrArg Value.bool (decide_eq_true h64)) (o_eql (a := (1 : Int)) (b := 1) rfl rfl ?_)
            refine s_op (o_pick_t (u := (.bool (decide ((1 : Int) = 1)))) ((rfl : _ = _).trans (congrArg Value.bool (decide_eq_true h64))) rfl ?_)
            refine s_op (o_move (v := (.bool (decide ((1 : Int) = 1)))) rfl ?_)
            refine s_on 66 rfl (congrArg Value.bool (decide_eq_true h64)) (o_move (v := (.pointer none)) rfl ?_)
            refine s_on 66 rfl (congrArg Value.bool (decide_eq_true h64)) (o_loadN (cs := [(.int .i64 a.1), (.int .i64 a.2.1), a.2.2.1]) Tryz.underlying36 rfl ti36 rfl hH61 (seg_sub 4 rfl) (CellsAt.one rfl) ?_)
            refine s_on 66 rfl (congrArg Value.bool (decide_eq_true h64)) (o_move (v := (.int .i64 n)) rfl ?_)
            refine s_on 66 rfl (congrArg Value.bool (decide_eq_true h64)) (o_callf (vs := #[(.pointer none), (.agg #[(.int .i64 a.1), (.int .i64 a.2.1), a.2.2.1]), (.int .i64 n)]) ca37 rfl (args3 rfl rfl rfl) (pchange_nil (no := a.1) (gsn := a.2.1) (l := a.2.2.2) (g := n) hH61.all (hin.mono (seg_sub 5 rfl))) ?_)
            rintro _ w67 ⟨rfl, hX65⟩
            refine ⟨_, rfl, ?_⟩
            have hH66 := hX65.of_all
            refine s_on 66 rfl (congrArg Value.bool (decide_eq_true h64)) (o_eql (a := 1) (b := 1) rfl rfl ?_)
            refine s_op (o_pick_t (u := (.bool (decide ((1 : Int) = (1 : Int))))) ((rfl : _ = _).trans (congrArg Value.bool (decide_eq_true h64))) rfl ?_)
            refine s_op (o_move (v := (.bool (decide ((1 : Int) = (1 : Int))))) rfl ?_)
            by_cases h68 : (1 : Int) = (1 : Int)
            · -- (1 : Int) = (1 : Int)
              refine s_on 73 rfl (congrArg Value.bool (decide_eq_true h68)) (o_move (v := (.pointer none)) rfl ?_)
              refine s_on 73 rfl (congrArg Value.bool (decide_eq_true h68)) (o_move (v := (.int .i64 n)) rfl ?_)
              refine s_on 73 rfl (congrArg Value.bool (decide_eq_true h68)) (o_buildSlice (ps := #[(0, (.int .i64 n))]) (cells := #[(.int .i64 n)]) Tryz.underlying40 ti3 (by decide) (parts1 rfl) (by kernel_rfl) hH66 fun b69 w70 hH71 => ?_)
              refine s_on 73 rfl (congrArg Value.bool (decide_eq_true h68)) (o_callf (vs := #[(.pointer none), (.slice (some ⟨b69, 0, none⟩) 1 1)]) ca43 rfl (args2 rfl rfl) (ppin_nil hH71.all (.slice (some ⟨b69, 0, none⟩) 1 1)) ?_)
              rintro _ w74 ⟨rfl, hX72⟩
              refine ⟨_, rfl, ?_⟩
              have hH73 := hX72.of_all
              refine s_on 73 rfl (congrArg Value.bool (decide_eq_true h68)) (o_eql (a := (1 : Int)) (b := 1) rfl rfl ?_)
              refine s_op (o_pick_t (u := (.bool (decide ((1 : Int) = 1)))) ((rfl : _ = _).trans (congrArg Value.bool (decide_eq_true h68))) rfl ?_)
              refine s_op (o_move (v := (.bool (decide ((1 : Int) = 1)))) rfl ?_)
              refine s_on 80 rfl (congrArg Value.bool (decide_eq_true h64)) (o_move (v := (.pointer none)) rfl ?_)
              refine s_on 80 rfl (congrArg Value.bool (decide_eq_true h64)) (o_move (v := (.int .i64 n)) rfl ?_)
              refine s_on 80 rfl (congrArg Value.bool (decide_eq_true h64)) (o_buildSlice (ps := #[(0, (.int .i64 n))]) (cells := #[(.int .i64 n)]) Tryz.underlying40 ti3 (by decide) (parts1 rfl) (by kernel_rfl) hH73 fun b75 w76 hH77 => ?_)
              refine s_on 80 rfl (congrArg Value.bool (decide_eq_true h64)) (o_callf (vs := #[(.pointer none), (.slice (some ⟨b75, 0, none⟩) 1 1)]) ca44 rfl (args2 rfl rfl) (punpin_nil hH77.all (.slice (some ⟨b75, 0, none⟩) 1 1)) ?_)
              rintro _ w80 ⟨rfl, hX78⟩
              refine ⟨_, rfl, ?_⟩
              have hH79 := hX78.of_all
              refine s_on 80 rfl (congrArg Value.bool (decide_eq_true h64)) (o_eql (a := (1 : Int)) (b := 1) rfl rfl ?_)
              refine s_op (o_pick_t (u := (.bool (decide ((1 : Int) = 1)))) ((rfl : _ = _).trans (congrArg Value.bool (decide_eq_true h64))) rfl ?_)
              refine s_op (o_move (v := (.bool (decide ((1 : Int) = 1)))) rfl ?_)
              refine s_on 87 rfl (congrArg Value.bool (decide_eq_true h64)) (o_move (v := (.pointer none)) rfl ?_)
              refine s_on 87 rfl (congrArg Value.bool (decide_eq_true h64)) (o_move (v := (.int .i64 n)) rfl ?_)
              refine s_on 87 rfl (congrArg Value.bool (decide_eq_true h64)) (o_buildSlice (ps := #[(0, (.int .i64 n))]) (cells := #[(.int .i64 n)]) Tryz.underlying40 ti3 (by decide) (parts1 rfl) (by kernel_rfl) hH79 fun b81 w82 hH83 => ?_)
              refine s_on 87 rfl (congrArg Value.bool (decide_eq_true h64)) (o_callf (vs := #[(.pointer none), (.slice (some ⟨b81, 0, none⟩) 1 1)]) ca40 rfl (args2 rfl rfl) (pevict_nil hH83.all (.slice (some ⟨b81, 0, none⟩) 1 1)) ?_)
              rintro _ w86 ⟨rfl, hX84⟩
              refine ⟨_, rfl, ?_⟩
              have hH85 := hX84.of_all
              refine s_on 87 rfl (congrArg Value.bool (decide_eq_true h64)) (o_eql (a := (1 : Int)) (b := 1) rfl rfl ?_)
              refine s_op (o_pick_t (u := (.bool (decide ((1 : Int) = 1)))) ((rfl : _ = _).trans (congrArg Value.bool (decide_eq_true h64))) rfl ?_)
              refine s_op (o_move (v := (.bool (decide ((1 : Int) = 1)))) rfl ?_)
              refine s_on 94 rfl (congrArg Value.bool (decide_eq_true h64)) (o_move (v := (.pointer none)) rfl ?_)
              refine s_on 94 rfl (congrArg Value.bool (decide_eq_true h64)) (o_callf (vs := #[(.pointer none)]) ca45 rfl (args1 rfl) (pdirty_nil hH85.all) ?_)
              rintro _ w89 ⟨rfl, hX87⟩
              refine ⟨_, rfl, ?_⟩
              have hH88 := hX87.of_all
              refine s_on 94 rfl (congrArg Value.bool (decide_eq_true h64)) (o_lenS Tryz.underlying86 rfl (sl_nil (L := []) 1) ?_)
              refine s_on 94 rfl (congrArg Value.bool (decide_eq_true h64)) (o_eql (a := ((0 : Nat) : Int)) (b := 0) rfl rfl ?_)
              refine s_op (o_pick_t (u := (.bool (decide (((0 : Nat) : Int) = 0)))) ((rfl : _ = _).trans (congrArg Value.bool (decide_eq_true h64))) rfl ?_)
              refine s_op (o_move (v := (.bool (decide (((0 : Nat) : Int) = 0)))) rfl ?_)
              by_cases h90 : ((0 : Nat) : Int) = 0
              · -- ((0 : Nat) : Int) = 0
                refine s_on 100 rfl (congrArg Value.bool (decide_eq_true h90)) (o_move (v := (.bool false)) rfl ?_)
                refine s_on 100 rfl (congrArg Value.bool (decide_eq_true h90)) (o_not rfl ?_)
                refine s_op (o_pick_t (u := (.bool true)) ((rfl : _ = _).trans (congrArg Value.bool (decide_eq_true h90))) rfl ?_)
                refine s_op (o_move (v := (.bool true)) rfl ?_)
                refine s_on 104 rfl rfl (o_move (v := (.pointer none)) rfl ?_)
                refine s_on 104 rfl rfl (o_callf (vs := #[(.pointer none)]) ca46 rfl (args1 rfl) (pheld_nil hH88.all) ?_)
                rintro _ w93 ⟨rfl, hX91⟩
                refine ⟨_, rfl, ?_⟩
                have hH92 := hX91.of_all
                refine s_on 104 rfl rfl (o_lenS Tryz.underlying40 rfl (sl_nil (L := []) 1) ?_)
                refine s_on 104 rfl rfl (o_eql (a := ((0 : Nat) : Int)) (b := 0) rfl rfl ?_)
                refine s_op (o_pick_t (u := (.bool (decide (((0 : Nat) : Int) = 0)))) rfl rfl ?_)
                refine s_op (o_move (v := (.bool (decide (((0 : Nat) : Int) = 0)))) rfl ?_)
                refine s_on 110 rfl (congrArg Value.bool (decide_eq_true h90)) (o_move (v := (.pointer none)) rfl ?_)
                refine s_on 110 rfl (congrArg Value.bool (decide_eq_true h90)) (o_callf (vs := #[(.pointer none)]) ca47 rfl (args1 rfl) (plen_nil hH92.all) ?_)
                rintro _ w96 ⟨rfl, hX94⟩
                refine ⟨_, rfl, ?_⟩
                have hH95 := hX94.of_all
                refine s_on 110 rfl (congrArg Value.bool (decide_eq_true h90)) (o_eql (a := (0 : Int)) (b := 0) rfl rfl ?_)
                refine s_op (o_pick_t (u := (.bool (decide ((0 : Int) = 0)))) ((rfl : _ = _).trans (congrArg Value.bool (decide_eq_true h90))) rfl ?_)
                refine s_op (o_assign (v := (.bool (decide ((0 : Int) = 0)))) rfl ?_)
                refine s_nil ?_
                refine t_norm (hK53 _ _ ?_)
                refine wp_ret ?_
                refine c_ret1 Tryz.results9  (v := (.bool (decide ((0 : Int) = 0)))) rfl ?_
                have hH97 : Has E w96 [R] := (hH95.front 8 rfl).first 1 rfl
                exact ⟨by first | rfl | (rw [decide_eq_true (by decide)]) | (simp [hc58]), hH97⟩
              · -- not: ((0 : Nat) : Int) = 0
                exact absurd h90 (by decide)
            · -- not: (1 : Int) = (1 : Int)
              exact absurd h68 (by decide)
          · -- not: (1 : Int) = 1
            exact absurd h64 (by decide)
        · -- not: true == (decide (1 ≤ n))
          exact absurd h63 (by simp [hc58])
      · -- no
        refine s_on 49 rfl rfl (o_callf (vs := #[(.pointer (some ⟨tb29, 0, none⟩)), (.int .i64 n)]) ca42 rfl (args2 rfl rfl) (pnew_bad hH56.all (tb := tb29) (x := n) hc58) ?_)
        rintro _ w100 ⟨rfl, hX98⟩
        refine ⟨_, rfl, ?_⟩
        have hH99 := hX98.of_all
        refine s_on 49 rfl rfl (o_pnnil (p := none) Tryz.underlying65 rfl rfl ?_)
        refine s_on 49 rfl rfl (o_move (v := (.int .i64 n)) rfl ?_)
        refine s_on 49 rfl rfl (o_geq (a := n) (b := 1) rfl rfl ?_)
        refine s_on 49 rfl rfl (o_eqlb Tryz.underlying4 rfl rfl ?_)
        refine s_op (o_pick_t (u := (.bool (false == (decide (1 ≤ n))))) rfl rfl ?_)
        refine s_op (o_move (v := (.bool (false == (decide (1 ≤ n))))) rfl ?_)
        rcases Bool.eq_false_or_eq_true (false == (decide (1 ≤ n))) with h101 | h101
        · -- false == (decide (1 ≤ n))
          refine s_on 58 rfl (congrArg Value.bool h101) (o_move (v := (.int .i64 (1 : Int))) rfl ?_)
          refine s_on 58 rfl (congrArg Value.bool h101) (o_eql (a := (1 : Int)) (b := 1) rfl rfl ?_)
          refine s_op (o_pick_t (u := (.bool (decide ((1 : Int) = 1)))) ((rfl : _ = _).trans (congrArg Value.bool h101)) rfl ?_)
          refine s_op (o_move (v := (.bool (decide ((1 : Int) = 1)))) rfl ?_)
          by_cases h102 : (1 : Int) = 1
          · -- (1 : Int) = 1
            refine s_on 62 rfl (congrArg Value.bool (decide_eq_true h102)) (o_move (v := (.int .i64 (1 : Int))) rfl ?_)
            refine s_on 62 rfl (congrArg Value.bool (decide_eq_true h102)) (o_eql (a := (1 : Int)) (b := 1) rfl rfl ?_)
            refine s_op (o_pick_t (u := (.bool (decide ((1 : Int) = 1)))) ((rfl : _ = _).trans (congrArg Value.bool (decide_eq_true h102))) rfl ?_)
            refine s_op (o_move (v := (.bool (decide ((1 : Int) = 1)))) rfl ?_)
            refine s_on 66 rfl (congrArg Value.bool (decide_eq_true h102)) (o_move (v := (.pointer none)) rfl ?_)
            refine s_on 66 rfl (congrArg Value.bool (decide_eq_true h102)) (o_loadN (cs := [(.int .i64 a.1), (.int .i64 a.2.1), a.2.2.1]) Tryz.underlying36 rfl ti36 rfl hH99 (seg_sub 4 rfl) (CellsAt.one rfl) ?_)
            refine s_on 66 rfl (congrArg Value.bool (decide_eq_true h102)) (o_move (v := (.int .i64 n)) rfl ?_)
            refine s_on 66 rfl (congrArg Value.bool (decide_eq_true h102)) (o_callf (vs := #[(.pointer none), (.agg #[(.int .i64 a.1), (.int .i64 a.2.1), a.2.2.1]), (.int .i64 n)]) ca37 rfl (args3 rfl rfl rfl) (pchange_nil (no := a.1) (gsn := a.2.1) (l := a.2.2.2) (g := n) hH99.all (hin.mono (seg_sub 5 rfl))) ?_)
            rintro _ w105 ⟨rfl, hX103⟩
            refine ⟨_, rfl, ?_⟩
            have hH104 := hX103.of_all
            refine s_on 66 rfl (congrArg Value.bool (decide_eq_true h102)) (o_eql (a := 1) (b := 1) rfl rfl ?_)
            refine s_op (o_pick_t (u := (.bool (decide ((1 : Int) = (1 : Int))))) ((rfl : _ = _).trans (congrArg Value.bool (decide_eq_true h102))) rfl ?_)
            refine s_op (o_move (v := (.bool (decide ((1 : Int) = (1 : Int))))) rfl ?_)
            by_cases h106 : (1 : Int) = (1 : Int)
            · -- (1 : Int) = (1 : Int)
              refine s_on 73 rfl (congrArg Value.bool (decide_eq_true h106)) (o_move (v := (.pointer none)) rfl ?_)
              refine s_on 73 rfl (congrArg Value.bool (decide_eq_true h106)) (o_move (v := (.int .i64 n)) rfl ?_)
              refine s_on 73 rfl (congrArg Value.bool (decide_eq_true h106)) (o_buildSlice (ps := #[(0, (.int .i64 n))]) (cells := #[(.int .i64 n)]) Tryz.underlying40 ti3 (by decide) (parts1 rfl) (by kernel_rfl) hH104 fun b107 w108 hH109 => ?_)
              refine s_on 73 rfl (congrArg Value.bool (decide_eq_true h106)) (o_callf (vs := #[(.pointer none), (.slice (some ⟨b107, 0, none⟩) 1 1)]) ca43 rfl (args2 rfl rfl) (ppin_nil hH109.all (.slice (some ⟨b107, 0, none⟩) 1 1)) ?_)
              rintro _ w112 ⟨rfl, hX110⟩
              refine ⟨_, rfl, ?_⟩
              have hH111 := hX110.of_all
              refine s_on 73 rfl (congrArg Value.bool (decide_eq_true h106)) (o_eql (a := (1 : Int)) (b := 1) rfl rfl ?_)
              refine s_op (o_pick_t (u := (.bool (decide ((1 : Int) = 1)))) ((rfl : _ = _).trans (congrArg Value.bool (decide_eq_true h106))) rfl ?_)
              refine s_op (o_move (v := (.bool (decide ((1 : Int) = 1)))) rfl ?_)
              refine s_on 80 rfl (congrArg Value.bool (decide_eq_true h102)) (o_move (v := (.pointer none)) rfl ?_)
              refine s_on 80 rfl (congrArg Value.bool (decide_eq_true h102)) (o_move (v := (.int .i64 n)) rfl ?_)
              refine s_on 80 rfl (congrArg Value.bool (decide_eq_true h102)) (o_buildSlice (ps := #[(0, (.int .i64 n))]) (cells := #[(.int .i64 n)]) Tryz.underlying40 ti3 (by decide) (parts1 rfl) (by kernel_rfl) hH111 fun b113 w114 hH115 => ?_)
              refine s_on 80 rfl (congrArg Value.bool (decide_eq_true h102)) (o_callf (vs := #[(.pointer none), (.slice (some ⟨b113, 0, none⟩) 1 1)]) ca44 rfl (args2 rfl rfl) (punpin_nil hH115.all (.slice (some ⟨b113, 0, none⟩) 1 1)) ?_)
              rintro _ w118 ⟨rfl, hX116⟩
              refine ⟨_, rfl, ?_⟩
              have hH117 := hX116.of_all
              refine s_on 80 rfl (congrArg Value.bool (decide_eq_true h102)) (o_eql (a := (1 : Int)) (b := 1) rfl rfl ?_)
              refine s_op (o_pick_t (u := (.bool (decide ((1 : Int) = 1)))) ((rfl : _ = _).trans (congrArg Value.bool (decide_eq_true h102))) rfl ?_)
              refine s_op (o_move (v := (.bool (decide ((1 : Int) = 1)))) rfl ?_)
              refine s_on 87 rfl (congrArg Value.bool (decide_eq_true h102)) (o_move (v := (.pointer none)) rfl ?_)
              refine s_on 87 rfl (congrArg Value.bool (decide_eq_true h102)) (o_move (v := (.int .i64 n)) rfl ?_)
              refine s_on 87 rfl (congrArg Value.bool (decide_eq_true h102)) (o_buildSlice (ps := #[(0, (.int .i64 n))]) (cells := #[(.int .i64 n)]) Tryz.underlying40 ti3 (by decide) (parts1 rfl) (by kernel_rfl) hH117 fun b119 w120 hH121 => ?_)
              refine s_on 87 rfl (congrArg Value.bool (decide_eq_true h102)) (o_callf (vs := #[(.pointer none), (.slice (some ⟨b119, 0, none⟩) 1 1)]) ca40 rfl (args2 rfl rfl) (pevict_nil hH121.all (.slice (some ⟨b119, 0, none⟩) 1 1)) ?_)
              rintro _ w124 ⟨rfl, hX122⟩
              refine ⟨_, rfl, ?_⟩
              have hH123 := hX122.of_all
              refine s_on 87 rfl (congrArg Value.bool (decide_eq_true h102)) (o_eql (a := (1 : Int)) (b := 1) rfl rfl ?_)
              refine s_op (o_pick_t (u := (.bool (decide ((1 : Int) = 1)))) ((rfl : _ = _).trans (congrArg Value.bool (decide_eq_true h102))) rfl ?_)
              refine s_op (o_move (v := (.bool (decide ((1 : Int) = 1)))) rfl ?_)
              refine s_on 94 rfl (congrArg Value.bool (decide_eq_true h102)) (o_move (v := (.pointer none)) rfl ?_)
              refine s_on 94 rfl (congrArg Value.bool (decide_eq_true h102)) (o_callf (vs := #[(.pointer none)]) ca45 rfl (args1 rfl) (pdirty_nil hH123.all) ?_)
              rintro _ w127 ⟨rfl, hX125⟩
              refine ⟨_, rfl, ?_⟩
              have hH126 := hX125.of_all
              refine s_on 94 rfl (congrArg Value.bool (decide_eq_true h102)) (o_lenS Tryz.underlying86 rfl (sl_nil (L := []) 1) ?_)
              refine s_on 94 rfl (congrArg Value.bool (decide_eq_true h102)) (o_eql (a := ((0 : Nat) : Int)) (b := 0) rfl rfl ?_)
              refine s_op (o_pick_t (u := (.bool (decide (((0 : Nat) : Int) = 0)))) ((rfl : _ = _).trans (congrArg Value.bool (decide_eq_true h102))) rfl ?_)
              refine s_op (o_move (v := (.bool (decide (((0 : Nat) : Int) = 0)))) rfl ?_)
              by_cases h128 : ((0 : Nat) : Int) = 0
              · -- ((0 : Nat) : Int) = 0
                refine s_on 100 rfl (congrArg Value.bool (decide_eq_true h128)) (o_move (v := (.bool false)) rfl ?_)
                refine s_on 100 rfl (congrArg Value.bool (decide_eq_true h128)) (o_not rfl ?_)
                refine s_op (o_pick_t (u := (.bool true)) ((rfl : _ = _).trans (congrArg Value.bool (decide_eq_true h128))) rfl ?_)
                refine s_op (o_move (v := (.bool true)) rfl ?_)
                refine s_on 104 rfl rfl (o_move (v := (.pointer none)) rfl ?_)
                refine s_on 104 rfl rfl (o_callf (vs := #[(.pointer none)]) ca46 rfl (args1 rfl) (pheld_nil hH126.all) ?_)
                rintro _ w131 ⟨rfl, hX129⟩
                refine ⟨_, rfl, ?_⟩
                have hH130 := hX129.of_all
                refine s_on 104 rfl rfl (o_lenS Tryz.underlying40 rfl (sl_nil (L := []) 1) ?_)
                refine s_on 104 rfl rfl (o_eql (a := ((0 : Nat) : Int)) (b := 0) rfl rfl ?_)
                refine s_op (o_pick_t (u := (.bool (decide (((0 : Nat) : Int) = 0)))) rfl rfl ?_)
                refine s_op (o_move (v := (.bool (decide (((0 : Nat) : Int) = 0)))) rfl ?_)
                refine s_on 110 rfl (congrArg Value.bool (decide_eq_true h128)) (o_move (v := (.pointer none)) rfl ?_)
                refine s_on 110 rfl (congrArg Value.bool (decide_eq_true h128)) (o_callf (vs := #[(.pointer none)]) ca47 rfl (args1 rfl) (plen_nil hH130.all) ?_)
                rintro _ w134 ⟨rfl, hX132⟩
                refine ⟨_, rfl, ?_⟩
                have hH133 := hX132.of_all
                refine s_on 110 rfl (congrArg Value.bool (decide_eq_true h128)) (o_eql (a := (0 : Int)) (b := 0) rfl rfl ?_)
                refine s_op (o_pick_t (u := (.bool (decide ((0 : Int) = 0)))) ((rfl : _ = _).trans (congrArg Value.bool (decide_eq_true h128))) rfl ?_)
                refine s_op (o_assign (v := (.bool (decide ((0 : Int) = 0)))) rfl ?_)
                refine s_nil ?_
                refine t_norm (hK53 _ _ ?_)
                refine wp_ret ?_
                refine c_ret1 Tryz.results9  (v := (.bool (decide ((0 : Int) = 0)))) rfl ?_
                have hH135 : Has E w134 [R] := (hH133.front 8 rfl).first 1 rfl
                exact ⟨by first | rfl | (rw [decide_eq_true (by decide)]) | (simp [hc58]), hH135⟩
              · -- not: ((0 : Nat) : Int) = 0
                exact absurd h128 (by decide)
            · -- not: (1 : Int) = (1 : Int)
              exact absurd h106 (by decide)
          · -- not: (1 : Int) = 1
            exact absurd h102 (by decide)
        · -- not: false == (decide (1 ≤ n))
          exact absurd h101 (by simp [hc58])
    · -- not: (0 : Int) = 0
      exact absurd h54 (by decide)
end Go.Q
namespace Go.Q
theorem arr_cells {H : Type} {enc : TypeId × Value → H} {P : Program} {w : World} {base : Nat} {spare : Nat → Bool} {held : Bool} {fuel n : Nat} {t e : TypeId} {k : IntKind} {cs : List Value} {l : List Int} {p : List MemPlace}
    (ht : P.underlying t = some (.array n e)) (he : P.underlying e = some (.int k)) (hc : P.cellsOf e = 1) (hl : l.length = n)
    (h : DataW.trod enc P w base spare held fuel t cs = some (.agg (l.map fun z => (DataW.lit (Lit.int k z) : DataW H)), p)) : ∀ (i : Nat) (z : Int), l[i]? = some z → cs[i]? = some (Value.int k z) := by
  intro i z hz
  obtain ⟨xs, m, _, hx, _, hn, hel⟩ := DataW.trod_array ht h
  simp only [Prod.mk.injEq, DataW.agg.injEq] at hx
  have hi : i < n := by rw [← hl]; exact (List.getElem?_eq_some_iff.1 hz).1
  have h1 := hel i hi
  rw [hc, Nat.mul_one, List.getElem?_eq_getElem (by omega)] at h1
  obtain ⟨r, e1, e2, _⟩ := DataW.trod_int he h1
  have e3 : (xs.map (·.1))[i]? = some (DataW.lit (Lit.int k z)) := by rw [← hx.1, List.getElem?_map, hz]; rfl
  rw [List.getElem?_map, List.getElem?_eq_getElem (by omega), Option.map_some] at e3
  rw [e2] at e3
  have e4 : r = z := by simpa using e3
  subst e4
  have e5 : (List.take 1 (List.drop i cs))[0]? = some (.int k r) := by rw [e1]; rfl
  rw [List.getElem?_take, if_pos (by omega), List.getElem?_drop] at e5
  simpa using e5
end Go.Q
namespace Go.Q
open Go.Proofs
set_option linter.unusedVariables false
set_option maxRecDepth 100000
attribute [local irreducible] wpList OK Code.wp
theorem rd_cel {H : Type} {enc : TypeId × Value → H} {w : World} {cs : List Value} (h : Rd enc Tryz.prog w 70 cs) : ∃ a : Cel, cs = ceC a ∧ True := by
  obtain ⟨hl, hf⟩ := rd_struct Tryz.underlying70 h
  have hl : cs.length = 2 := hl.trans (by kernel_rfl)
  obtain ⟨c0, c1, rfl⟩ : ∃ c0 c1, cs = [c0, c1] := by
    match cs, hl with
    | [c0, c1], _ => exact ⟨c0, c1, rfl⟩
  have f0_6 : Rd enc Tryz.prog w 9 [c0] := rd_field (i := 0) (k := 1) hf rfl rfl (by kernel_rfl) rfl
  obtain ⟨n0, e0, b0⟩ := rd_string Tryz.underlying9 f0_6
  obtain rfl := (List.cons.inj e0).1
  have f1_9 : Rd enc Tryz.prog w 9 [c1] := rd_field (i := 1) (k := 1) hf rfl rfl (by kernel_rfl) rfl
  obtain ⟨n1, e1, b1⟩ := rd_string Tryz.underlying9 f1_9
  obtain rfl := (List.cons.inj e1).1
  exact ⟨(n0, n1), rfl, trivial⟩
theorem rd_cels {H : Type} {enc : TypeId × Value → H} {w : World} {cs : List Value} (h : Rd enc Tryz.prog w 34 cs) : ∃ (v : Value) (l : List Cel), cs = [v] ∧ Sl [Hp.of w] 2 v l.length (l.flatMap ceC) ∧ ∀ a ∈ l, True :=
  rd_rows Tryz.underlying34 (by kernel_rfl) (by decide) ceC_len (fun r hr => rd_cel hr) h
theorem rd_page {H : Type} {enc : TypeId × Value → H} {w : World} {cs : List Value} (h : Rd enc Tryz.prog w 36 cs) : ∃ a : Pg, cs = pgC a ∧ PgIn [Hp.of w] a := by
  obtain ⟨hl, hf⟩ := rd_struct Tryz.underlying36 h
  have hl : cs.length = 3 := hl.trans (by kernel_rfl)
  obtain ⟨c0, c1, c2, rfl⟩ : ∃ c0 c1 c2, cs = [c0, c1, c2] := by
    match cs, hl with
    | [c0, c1, c2], _ => exact ⟨c0, c1, c2, rfl⟩
  have f0_6 : Rd enc Tryz.prog w 3 [c0] := rd_field (i := 0) (k := 1) hf rfl rfl (by kernel_rfl) rfl
  obtain ⟨n0, e0, b0⟩ := rd_i64 Tryz.underlying3 f0_6
  obtain rfl := (List.cons.inj e0).1
  have f1_9 : Rd enc Tryz.prog w 3 [c1] := rd_field (i := 1) (k := 1) hf rfl rfl (by kernel_rfl) rfl
  obtain ⟨n1, e1, b1⟩ := rd_i64 Tryz.underlying3 f1_9
  obtain rfl := (List.cons.inj e1).1
  have f2_12 : Rd enc Tryz.prog w 34 [c2] := rd_field (i := 2) (k := 1) hf rfl rfl (by kernel_rfl) rfl
  obtain ⟨u2, n2, e2, s2, b2⟩ := rd_cels f2_12
  obtain rfl := (List.cons.inj e2).1
  exact ⟨(n0, n1, _, n2), rfl, s2⟩
end Go.Q
