/-
  Parts of a walk: what functions of the program compute, each told by a theorem.
-/
import Derived.Test.YtcffibbdbalmjaaQU
import Derived.Test.YtcffibbdbalmjaaQE9
import Derived.Test.YtcffibbdbalmjaaQESB
import Derived.Test.YtcffibbdbalmjaaQArea
set_option linter.unusedVariables false
set_option linter.unusedSimpArgs false
namespace Go.Q
open Go.Proofs
set_option linter.unusedVariables false
set_option maxRecDepth 100000
attribute [local irreducible] wpList OK Code.wp
set_option maxHeartbeats 4000000 in
theorem alen_c {E w : World} {R : List Hp} {ab db : Nat} {fr n : Int} (hH : Has E w [[Hp.one ab (.cells #[(.pointer (some ⟨db, 0, none⟩)), (.int .i64 fr), (.int .i64 n)] 139 (0, 0))], R]) (hn : 1 ≤ n ∧ n ≤ 4096) :
    Calls Try.prog 74 #[(.pointer (some ⟨ab, 0, none⟩))] w fun e w' => e = .returned (.int .i64 (n * 64)) ∧ Has E w' [[Hp.one ab (.cells #[(.pointer (some ⟨db, 0, none⟩)), (.int .i64 fr), (.int .i64 n)] 139 (0, 0))], R] := by
  obtain ⟨hn1, hn2⟩ := hn
  refine c_enter (args := [(.pointer (some ⟨ab, 0, none⟩))]) Try.func74 rfl Try.ntmps74 (by simp) ?_
  refine wp_seq_k fun K1 hK1 => ?_
  refine c_region ?_
  refine s_op (o_assign (v := (.int .i64 0)) rfl ?_)
  refine s_nil ?_
  refine t_norm (hK1 _ _ ?_)
  refine wp_seq_k fun K2 hK2 => ?_
  refine wp_seq_k fun K3 hK3 => ?_
  refine c_region ?_
  refine s_op (o_move (v := (.pointer (some ⟨ab, 0, none⟩))) rfl ?_)
  refine s_op (o_pnil (p := some _) Try.underlying48 rfl rfl ?_)
  refine s_nil ?_
  refine t_norm (hK3 _ _ ?_)
  refine c_false rfl rfl ?_
  refine wp_skip ?_
  refine t_norm (hK2 _ _ ?_)
  refine wp_seq_k fun K4 hK4 => ?_
  refine c_region ?_
  refine s_op (o_move (v := (.pointer (some ⟨ab, 0, none⟩))) rfl ?_)
  refine s_op (o_nilCheck rfl ?_)
  refine s_op (o_fieldAddr (k := 2) (fun _ => by kernel_rfl) rfl ?_)
  refine s_op (o_load1 (v := (.int .i64 n)) Try.underlying3 rfl rfl hH (seg_sub 0 rfl) (CellsAt.one rfl) ?_)
  refine s_op (o_mul (a := n) (b := 64) rfl rfl (w64 (by omega) (by omega)) ?_)
  refine s_op (o_assign (v := (.int .i64 (n * 64))) rfl ?_)
  refine s_nil ?_
  refine t_norm (hK4 _ _ ?_)
  refine wp_ret ?_
  refine c_ret1 Try.results74  (v := (.int .i64 (n * 64))) rfl ?_
  exact ⟨rfl, hH⟩
set_option maxHeartbeats 4000000 in
theorem amay_c {E w : World} {R : List Hp} {ab db : Nat} {fr n : Int} (hH : Has E w [[Hp.one ab (.cells #[(.pointer (some ⟨db, 0, none⟩)), (.int .i64 fr), (.int .i64 n)] 139 (0, 0))], R]) (hn : 1 ≤ n ∧ n ≤ 4096) (at_ size : Int) :
    Calls Try.prog 78 #[(.pointer (some ⟨ab, 0, none⟩)), (.int .i64 at_), (.int .i64 size)] w fun e w' => e = .returned (.bool (decide (0 ≤ at_ ∧ at_ ≤ 4611686018427387904 ∧ 0 ≤ size ∧ size ≤ n * 64))) ∧ Has E w' [[Hp.one ab (.cells #[(.pointer (some ⟨db, 0, none⟩)), (.int .i64 fr), (.int .i64 n)] 139 (0, 0))], R] := by
  obtain ⟨hn1, hn2⟩ := hn
  refine c_enter (args := [(.pointer (some ⟨ab, 0, none⟩)), (.int .i64 at_), (.int .i64 size)]) Try.func78 rfl Try.ntmps78 (by simp) ?_
  refine wp_seq_k fun K1 hK1 => ?_
  refine c_region ?_
  refine s_op (o_assign (v := (.bool false)) rfl ?_)
  refine s_nil ?_
  refine t_norm (hK1 _ _ ?_)
  refine wp_seq_k fun K2 hK2 => ?_
  refine c_region ?_
  refine s_op (o_move (v := (.pointer (some ⟨ab, 0, none⟩))) rfl ?_)
  refine s_op (o_pnnil (p := some _) Try.underlying48 rfl rfl ?_)
  refine s_op (o_move (v := (.bool true)) rfl ?_)
  refine s_on 9 rfl rfl (o_move (v := (.int .i64 at_)) rfl ?_)
  refine s_on 9 rfl rfl (o_geq (a := at_) (b := 0) rfl rfl ?_)
  refine s_op (o_pick_t (u := (.bool (decide (0 ≤ at_)))) rfl rfl ?_)
  refine s_op (o_move (v := (.bool (decide (0 ≤ at_)))) rfl ?_)
  by_cases h3 : 0 ≤ at_
  · -- 0 ≤ at_
    refine s_on 13 rfl (congrArg Value.bool (decide_eq_true h3)) (o_move (v := (.int .i64 at_)) rfl ?_)
    refine s_on 13 rfl (congrArg Value.bool (decide_eq_true h3)) (o_leq (a := at_) (b := 4611686018427387904) rfl rfl ?_)
    refine s_op (o_pick_t (u := (.bool (decide (at_ ≤ 4611686018427387904)))) ((rfl : _ = _).trans (congrArg Value.bool (decide_eq_true h3))) rfl ?_)
    refine s_op (o_move (v := (.bool (decide (at_ ≤ 4611686018427387904)))) rfl ?_)
    by_cases h4 : at_ ≤ 4611686018427387904
    · -- at_ ≤ 4611686018427387904
      refine s_on 17 rfl (congrArg Value.bool (decide_eq_true h4)) (o_move (v := (.int .i64 size)) rfl ?_)
      refine s_on 17 rfl (congrArg Value.bool (decide_eq_true h4)) (o_geq (a := size) (b := 0) rfl rfl ?_)
      refine s_op (o_pick_t (u := (.bool (decide (0 ≤ size)))) ((rfl : _ = _).trans (congrArg Value.bool (decide_eq_true h4))) rfl ?_)
      refine s_op (o_move (v := (.bool (decide (0 ≤ size)))) rfl ?_)
      by_cases h5 : 0 ≤ size
      · -- 0 ≤ size
        refine s_on 21 rfl (congrArg Value.bool (decide_eq_true h5)) (o_move (v := (.int .i64 size)) rfl ?_)
        refine s_on 21 rfl (congrArg Value.bool (decide_eq_true h5)) (o_move (v := (.pointer (some ⟨ab, 0, none⟩))) rfl ?_)
        refine s_on 21 rfl (congrArg Value.bool (decide_eq_true h5)) (o_callf (vs := #[(.pointer (some ⟨ab, 0, none⟩))]) ca74 rfl (args1 rfl) (alen_c hH.all1 ⟨by omega, by omega⟩) ?_)
        rintro _ w8 ⟨rfl, hX6⟩
        refine ⟨_, rfl, ?_⟩
        have hH7 : Has E w8 [[Hp.one ab (.cells #[(.pointer (some ⟨db, 0, none⟩)), (.int .i64 fr), (.int .i64 n)] 139 (0, 0))], R] := hX6.of_all1
        refine s_on 21 rfl (congrArg Value.bool (decide_eq_true h5)) (o_leq (a := size) (b := n * 64) rfl rfl ?_)
        refine s_op (o_pick_t (u := (.bool (decide (size ≤ n * 64)))) ((rfl : _ = _).trans (congrArg Value.bool (decide_eq_true h5))) rfl ?_)
        refine s_op (o_assign (v := (.bool (decide (size ≤ n * 64)))) rfl ?_)
        refine s_nil ?_
        refine t_norm (hK2 _ _ ?_)
        refine wp_ret ?_
        refine c_ret1 Try.results78  (v := (.bool (decide (size ≤ n * 64)))) rfl ?_
        have e_ : decide (size ≤ n * 64) = decide (0 ≤ at_ ∧ at_ ≤ 4611686018427387904 ∧ 0 ≤ size ∧ size ≤ n * 64) := by first | (simp [h3, h4, h5]; done) | (rw [eq_comm, decide_eq_false_iff_not]; omega) | (rw [eq_comm, decide_eq_true_iff]; omega) | (congr 1; apply propext; constructor <;> intro _ <;> first | omega | (refine ⟨?_, ?_, ?_, ?_⟩ <;> omega))
        exact ⟨by rw [← e_], hH7⟩
      · -- not: 0 ≤ size
        refine s_off (b' := false) 21 rfl (congrArg Value.bool (decide_eq_false h5)) rfl ?_
        refine s_off (b' := false) 21 rfl (congrArg Value.bool (decide_eq_false h5)) rfl ?_
        refine s_off (b' := false) 21 rfl (congrArg Value.bool (decide_eq_false h5)) rfl ?_
        refine s_off (b' := false) 21 rfl (congrArg Value.bool (decide_eq_false h5)) rfl ?_
        refine s_op (o_pick_f (u := (.bool false)) ((rfl : _ = _).trans (congrArg Value.bool (decide_eq_false h5))) rfl ?_)
        refine s_op (o_assign (v := (.bool false)) rfl ?_)
        refine s_nil ?_
        refine t_norm (hK2 _ _ ?_)
        refine wp_ret ?_
        refine c_ret1 Try.results78  (v := (.bool false)) rfl ?_
        have e_ : false = decide (0 ≤ at_ ∧ at_ ≤ 4611686018427387904 ∧ 0 ≤ size ∧ size ≤ n * 64) := by first | (simp [h3, h4, h5]; done) | (rw [eq_comm, decide_eq_false_iff_not]; omega) | (rw [eq_comm, decide_eq_true_iff]; omega) | (congr 1; apply propext; constructor <;> intro _ <;> first | omega | (refine ⟨?_, ?_, ?_, ?_⟩ <;> omega))
        exact ⟨by rw [← e_], hH⟩
    · -- not: at_ ≤ 4611686018427387904
      refine s_off (b' := false) 17 rfl (congrArg Value.bool (decide_eq_false h4)) rfl ?_
      refine s_off (b' := false) 17 rfl (congrArg Value.bool (decide_eq_false h4)) rfl ?_
      refine s_op (o_pick_f (u := (.bool false)) ((rfl : _ = _).trans (congrArg Value.bool (decide_eq_false h4))) rfl ?_)
      refine s_op (o_move (v := (.bool false)) rfl ?_)
      refine s_off (b' := false) 21 rfl rfl rfl ?_
      refine s_off (b' := false) 21 rfl rfl rfl ?_
      refine s_off (b' := false) 21 rfl rfl rfl ?_
      refine s_off (b' := false) 21 rfl rfl rfl ?_
      refine s_op (o_pick_f (u := (.bool false)) rfl rfl ?_)
      refine s_op (o_assign (v := (.bool false)) rfl ?_)
      refine s_nil ?_
      refine t_norm (hK2 _ _ ?_)
      refine wp_ret ?_
      refine c_ret1 Try.results78  (v := (.bool false)) rfl ?_
      have e_ : false = decide (0 ≤ at_ ∧ at_ ≤ 4611686018427387904 ∧ 0 ≤ size ∧ size ≤ n * 64) := by first | (simp [h3, h4]; done) | (rw [eq_comm, decide_eq_false_iff_not]; omega) | (rw [eq_comm, decide_eq_true_iff]; omega) | (congr 1; apply propext; constructor <;> intro _ <;> first | omega | (refine ⟨?_, ?_, ?_, ?_⟩ <;> omega))
      exact ⟨by rw [← e_], hH⟩
  · -- not: 0 ≤ at_
    refine s_off (b' := false) 13 rfl (congrArg Value.bool (decide_eq_false h3)) rfl ?_
    refine s_off (b' := false) 13 rfl (congrArg Value.bool (decide_eq_false h3)) rfl ?_
    refine s_op (o_pick_f (u := (.bool false)) ((rfl : _ = _).trans (congrArg Value.bool (decide_eq_false h3))) rfl ?_)
    refine s_op (o_move (v := (.bool false)) rfl ?_)
    refine s_off (b' := false) 17 rfl rfl rfl ?_
    refine s_off (b' := false) 17 rfl rfl rfl ?_
    refine s_op (o_pick_f (u := (.bool false)) rfl rfl ?_)
    refine s_op (o_move (v := (.bool false)) rfl ?_)
    refine s_off (b' := false) 21 rfl rfl rfl ?_
    refine s_off (b' := false) 21 rfl rfl rfl ?_
    refine s_off (b' := false) 21 rfl rfl rfl ?_
    refine s_off (b' := false) 21 rfl rfl rfl ?_
    refine s_op (o_pick_f (u := (.bool false)) rfl rfl ?_)
    refine s_op (o_assign (v := (.bool false)) rfl ?_)
    refine s_nil ?_
    refine t_norm (hK2 _ _ ?_)
    refine wp_ret ?_
    refine c_ret1 Try.results78  (v := (.bool false)) rfl ?_
    have e_ : false = decide (0 ≤ at_ ∧ at_ ≤ 4611686018427387904 ∧ 0 ≤ size ∧ size ≤ n * 64) := by first | (simp [h3]; done) | (rw [eq_comm, decide_eq_false_iff_not]; omega) | (rw [eq_comm, decide_eq_true_iff]; omega) | (congr 1; apply propext; constructor <;> intro _ <;> first | omega | (refine ⟨?_, ?_, ?_, ?_⟩ <;> omega))
    exact ⟨by rw [← e_], hH⟩
set_option maxHeartbeats 4000000 in
theorem pieces_c {E w : World} {R : List Hp} {ab db : Nat} {fr n : Int} (hH : Has E w [[Hp.one ab (.cells #[(.pointer (some ⟨db, 0, none⟩)), (.int .i64 fr), (.int .i64 n)] 139 (0, 0))], R]) (hn : 1 ≤ n ∧ n ≤ 4096) (hfr : 0 ≤ fr ∧ fr ≤ 4096) {at_ size : Int} (hat : 0 ≤ at_ ∧ at_ ≤ 4611686018427387904) (hsz : 0 ≤ size ∧ size ≤ n * 64) :
    Calls Try.prog 80 #[(.pointer (some ⟨ab, 0, none⟩)), (.int .i64 at_), (.int .i64 size)] w fun e w' => ∃ v' hs', e = .returned v' ∧ Own 145 3 v' (allP fr (n * 64) (at_ % (n * 64)) size).length ((allP fr (n * 64) (at_ % (n * 64)) size).flatMap pcC) hs' ∧ Has E w' [hs', [Hp.one ab (.cells #[(.pointer (some ⟨db, 0, none⟩)), (.int .i64 fr), (.int .i64 n)] 139 (0, 0))], R] := by
  obtain ⟨hn1, hn2⟩ := hn
  obtain ⟨hfr1, hfr2⟩ := hfr
  obtain ⟨hat1, hat2⟩ := hat
  obtain ⟨hsz1, hsz2⟩ := hsz
  refine c_enter (args := [(.pointer (some ⟨ab, 0, none⟩)), (.int .i64 at_), (.int .i64 size)]) Try.func80 rfl Try.ntmps80 (by simp) ?_
  refine wp_seq_k fun K1 hK1 => ?_
  refine c_region ?_
  refine s_op (o_assign (v := (.slice none 0 0)) rfl ?_)
  refine s_nil ?_
  refine t_norm (hK1 _ _ ?_)
  refine wp_seq_k fun K2 hK2 => ?_
  refine c_region ?_
  refine s_op (o_assign (v := (.slice none 0 0)) rfl ?_)
  refine s_nil ?_
  refine t_norm (hK2 _ _ ?_)
  refine wp_seq_k fun K3 hK3 => ?_
  refine wp_seq_k fun K4 hK4 => ?_
  refine c_region ?_
  refine s_op (o_move (v := (.int .i64 at_)) rfl ?_)
  refine s_op (o_move (v := (.pointer (some ⟨ab, 0, none⟩))) rfl ?_)
  refine s_op (o_callf (vs := #[(.pointer (some ⟨ab, 0, none⟩))]) ca74 rfl (args1 rfl) (alen_c hH.all1 ⟨by omega, by omega⟩) ?_)
  rintro _ w7 ⟨rfl, hX5⟩
  refine ⟨_, rfl, ?_⟩
  have hH6 : Has E w7 [[Hp.one ab (.cells #[(.pointer (some ⟨db, 0, none⟩)), (.int .i64 fr), (.int .i64 n)] 139 (0, 0))], R] := hX5.of_all1
  have hm8 := emod_b at_ (n * 64) (by omega)
  refine s_op (o_rem (a := at_) (b := n * 64) (c := at_ % (n * 64)) rfl rfl (by omega) ((Int.tmod_eq_emod_of_nonneg (by first | exact Int.natCast_nonneg _ | omega))) ?_)
  refine s_op (o_assign (v := (.int .i64 (at_ % (n * 64)))) rfl ?_)
  refine s_nil ?_
  refine t_norm (hK4 _ _ ?_)
  refine wp_block ?_
  let I10 : Nat → (Nat → Value) → World → Prop := fun n__ r__ w__ => ∃ (a : Int) (z : Int) (va : Value) (ha : List Hp) (acc : List Pc), n__ = z.toNat ∧ Has E w__ [ha, [Hp.one ab (.cells #[(.pointer (some ⟨db, 0, none⟩)), (.int .i64 fr), (.int .i64 n)] 139 (0, 0))], R] ∧ (0 ≤ z ∧ z ≤ size) ∧ (0 ≤ a ∧ a < n * 64) ∧ (Own 145 3 va acc.length (acc.flatMap pcC) ha) ∧ ((acc.length : Int) + z ≤ size) ∧ (allP fr (n * 64) (at_ % (n * 64)) size = acc ++ allP fr (n * 64) a z) ∧ r__ 0 = (.pointer (some ⟨ab, 0, none⟩)) ∧ r__ 1 = (.int .i64 a) ∧ r__ 2 = (.int .i64 z) ∧ r__ 6 = (.slice none 0 0) ∧ r__ 7 = va
  have hH11 : Has E w7 [[], [Hp.one ab (.cells #[(.pointer (some ⟨db, 0, none⟩)), (.int .i64 fr), (.int .i64 n)] 139 (0, 0))], R] := (Has.nil ((hH6.front 1 rfl).front 1 rfl)).first 3 rfl
  refine c_loop I10 _ ⟨(at_ % (n * 64)), size, (.slice none 0 0), [], [], rfl, hH11, ⟨by omega, by omega⟩, ⟨Int.emod_nonneg _ (by omega), Int.emod_lt_of_pos _ (by omega)⟩, Own.nil 145 3, (by simp), rfl, rfl, rfl, rfl, rfl, rfl⟩ ?_
  rintro n_ r14 w12 ⟨a, z, va, ha, acc, rfl, hH13, hz, ha_, hoa, hct, hacc, e9_0, e9_1, e9_2, e9_6, e9_7⟩
  refine wp_seq_k fun K15 hK15 => ?_
  refine wp_seq_k fun K16 hK16 => ?_
  refine c_region ?_
  refine s_op (o_move (v := (.int .i64 z)) e9_2 ?_)
  refine s_op (o_gtr (a := z) (b := 0) rfl rfl ?_)
  refine s_nil ?_
  refine t_norm (hK16 _ _ ?_)
  refine c_cond rfl (fun h17 => ?_) (fun h17 => ?_)
  · -- 0 < z
    refine wp_skip ?_
    refine t_norm (hK15 _ _ ?_)
    refine wp_seq_k fun K18 hK18 => ?_
    refine wp_block ?_
    refine wp_seq_k fun K19 hK19 => ?_
    refine c_region ?_
    refine s_op (o_move (v := (.pointer (some ⟨ab, 0, none⟩))) e9_0 ?_)
    refine s_op (o_nilCheck rfl ?_)
    refine s_op (o_fieldAddr (k := 1) (fun _ => by kernel_rfl) rfl ?_)
    refine s_op (o_load1 (v := (.int .i64 fr)) Try.underlying3 rfl rfl hH13 (seg_sub 1 rfl) (CellsAt.one rfl) ?_)
    refine s_op (o_move (v := (.int .i64 a)) e9_1 ?_)
    refine s_op (o_quo (a := a) (b := 64) (c := a / 64) rfl rfl (by omega) (by rw [(Int.tdiv_eq_ediv_of_nonneg (by first | exact Int.natCast_nonneg _ | omega))]; exact w64 (by omega) (by omega)) ?_)
    refine s_op (o_add (a := fr) (b := a / 64) rfl rfl (w64 (by omega) (by omega)) ?_)
    refine s_op (o_move (v := (.int .i64 a)) e9_1 ?_)
    refine s_op (o_rem (a := a) (b := 64) (c := a % 64) rfl rfl (by omega) ((Int.tmod_eq_emod_of_nonneg (by first | exact Int.natCast_nonneg _ | omega))) ?_)
    refine s_op (o_sight (v := (.agg #[(.int .i64 (fr + (a / 64))), (.int .i64 (a % 64)), (.int .i64 0)])) (fun _ => by kernel_rfl) ?_)
    refine s_op (o_alloc (cs := #[(.int .i64 0), (.int .i64 0), (.int .i64 0)]) ti145 rfl hH13 fun b20 w21 hH22 => ?_)
    refine s_eff (o_storeN (vs := [(.int .i64 (fr + (a / 64))), (.int .i64 (a % 64)), (.int .i64 0)]) (c' := #[(.int .i64 (fr + (a / 64))), (.int .i64 (a % 64)), (.int .i64 0)]) ti145 rfl rfl rfl rfl (by intro u hu; simp only [List.mem_cons, List.not_mem_nil, or_false] at hu; rcases hu with rfl | rfl | rfl <;> first | rfl) (by simp) (by kernel_rfl) (hH22.front 0 rfl) fun w23 hH24 => ?_)
    refine s_nil ?_
    refine t_norm (hK19 _ _ ?_)
    refine wp_seq_k fun K25 hK25 => ?_
    refine c_region ?_
    refine s_op (o_fieldAddr (k := 1) (fun _ => by kernel_rfl) rfl ?_)
    refine s_op (o_load1 (v := (.int .i64 (a % 64))) Try.underlying3 rfl rfl hH24 (seg_sub 0 rfl) (CellsAt.one rfl) ?_)
    refine s_op (o_move (v := (.int .i64 z)) e9_2 ?_)
    refine s_op (o_add (a := a % 64) (b := z) rfl rfl (w64 (by omega) (by omega)) ?_)
    refine s_op (o_min (a := (a % 64) + z) (b := 64) rfl rfl ?_)
    refine s_op (o_fieldAddr (k := 2) (fun _ => by kernel_rfl) rfl ?_)
    refine s_eff (o_store1 (c' := #[(.int .i64 (fr + (a / 64))), (.int .i64 (a % 64)), (.int .i64 (min ((a % 64) + z) 64))]) ti3 rfl rfl rfl (by simp) rfl (hH24.front 0 rfl) fun w26 hH27 => ?_)
    refine s_nil ?_
    refine t_norm (hK25 _ _ ?_)
    refine wp_seq_k fun K28 hK28 => ?_
    refine c_region ?_
    refine s_op (o_move (v := va) e9_7 ?_)
    refine s_op (o_loadN (cs := [(.int .i64 (fr + (a / 64))), (.int .i64 (a % 64)), (.int .i64 (min ((a % 64) + z) 64))]) Try.underlying145 rfl ti145 rfl hH27 (seg_sub 0 rfl) (CellsAt.one rfl) ?_)
    refine s_op (o_buildSlice (ps := #[(0, (.agg #[(.int .i64 (fr + (a / 64))), (.int .i64 (a % 64)), (.int .i64 (min ((a % 64) + z) 64))]))]) (cells := #[(.int .i64 (fr + (a / 64))), (.int .i64 (a % 64)), (.int .i64 (min ((a % 64) + z) 64))]) Try.underlying142 ti145 (by decide) (parts1 rfl) (by kernel_rfl) hH27 fun b29 w30 hH31 => ?_)
    refine s_op (o_append Try.underlying142 ti145 rfl (by decide) rfl hoa rfl (sl_litF (f := pcC) (l := [(Pc.mk (fr + (a / 64)) (a % 64) (min ((a % 64) + z) 64))]) pcC_len rfl rfl (by simp)) (hH31.front 2 rfl) (seg_sub 0 rfl) (one_pcC _) (by simp; omega) (by simp; omega) fun v32 s33 w35 ho34 hH36 => ?_)
    have ho34 : Own 145 3 v32 (acc ++ [(Pc.mk (fr + (a / 64)) (a % 64) (min ((a % 64) + z) 64))]).length ((acc ++ [(Pc.mk (fr + (a / 64)) (a % 64) (min ((a % 64) + z) 64))]).flatMap pcC) s33 := ho34.appF
    refine s_op (o_assign (v := v32) rfl ?_)
    refine s_nil ?_
    refine t_norm (hK28 _ _ ?_)
    refine wp_seq_k fun K37 hK37 => ?_
    refine c_region ?_
    refine s_op (o_move (v := (.int .i64 a)) e9_1 ?_)
    refine s_op (o_fieldAddr (k := 2) (fun _ => by kernel_rfl) rfl ?_)
    refine s_op (o_load1 (v := (.int .i64 (min ((a % 64) + z) 64))) Try.underlying3 rfl rfl hH36 (seg_sub 2 rfl) (CellsAt.one rfl) ?_)
    refine s_op (o_fieldAddr (k := 1) (fun _ => by kernel_rfl) rfl ?_)
    refine s_op (o_load1 (v := (.int .i64 (a % 64))) Try.underlying3 rfl rfl hH36 (seg_sub 2 rfl) (CellsAt.one rfl) ?_)
    refine s_op (o_sub (a := min ((a % 64) + z) 64) (b := a % 64) rfl rfl (w64 (by omega) (by omega)) ?_)
    refine s_op (o_add (a := a) (b := (min ((a % 64) + z) 64) - (a % 64)) rfl rfl (w64 (by omega) (by omega)) ?_)
    refine s_op (o_assign (v := (.int .i64 (a + ((min ((a % 64) + z) 64) - (a % 64))))) rfl ?_)
    refine s_nil ?_
    refine t_norm (hK37 _ _ ?_)
    refine c_region ?_
    refine s_op (o_move (v := (.int .i64 z)) e9_2 ?_)
    refine s_op (o_fieldAddr (k := 2) (fun _ => by kernel_rfl) rfl ?_)
    refine s_op (o_load1 (v := (.int .i64 (min ((a % 64) + z) 64))) Try.underlying3 rfl rfl hH36 (seg_sub 2 rfl) (CellsAt.one rfl) ?_)
    refine s_op (o_fieldAddr (k := 1) (fun _ => by kernel_rfl) rfl ?_)
    refine s_op (o_load1 (v := (.int .i64 (a % 64))) Try.underlying3 rfl rfl hH36 (seg_sub 2 rfl) (CellsAt.one rfl) ?_)
    refine s_op (o_sub (a := min ((a % 64) + z) 64) (b := a % 64) rfl rfl (w64 (by omega) (by omega)) ?_)
    refine s_op (o_sub (a := z) (b := (min ((a % 64) + z) 64) - (a % 64)) rfl rfl (w64 (by omega) (by omega)) ?_)
    refine s_op (o_assign (v := (.int .i64 (z - ((min ((a % 64) + z) 64) - (a % 64))))) rfl ?_)
    refine s_nil ?_
    refine b_norm ?_
    refine t_norm (hK18 _ _ ?_)
    refine c_region ?_
    refine s_op (o_move (v := (.int .i64 (a + ((min ((a % 64) + z) 64) - (a % 64))))) rfl ?_)
    refine s_op (o_move (v := (.pointer (some ⟨ab, 0, none⟩))) e9_0 ?_)
    refine s_op (o_callf (vs := #[(.pointer (some ⟨ab, 0, none⟩))]) ca74 rfl (args1 rfl) (alen_c (hH36.front 3 rfl).all1 ⟨by omega, by omega⟩) ?_)
    rintro _ w40 ⟨rfl, hX38⟩
    refine ⟨_, rfl, ?_⟩
    have hH39 : Has E w40 [[Hp.one ab (.cells #[(.pointer (some ⟨db, 0, none⟩)), (.int .i64 fr), (.int .i64 n)] 139 (0, 0))], s33, [Hp.one b29 (.cells #[(.int .i64 (fr + (a / 64))), (.int .i64 (a % 64)), (.int .i64 (min ((a % 64) + z) 64))] 145 (0, 0))], [Hp.one b20 (.cells #[(.int .i64 (fr + (a / 64))), (.int .i64 (a % 64)), (.int .i64 (min ((a % 64) + z) 64))] 145 (0, 0))], R] := hX38.of_all1
    have hm41 := emod_b (a + ((min ((a % 64) + z) 64) - (a % 64))) (n * 64) (by omega)
    refine s_op (o_rem (a := a + ((min ((a % 64) + z) 64) - (a % 64))) (b := n * 64) (c := (a + ((min ((a % 64) + z) 64) - (a % 64))) % (n * 64)) rfl rfl (by omega) ((Int.tmod_eq_emod_of_nonneg (by first | exact Int.natCast_nonneg _ | omega))) ?_)
    refine s_op (o_assign (v := (.int .i64 ((a + ((min ((a % 64) + z) 64) - (a % 64))) % (n * 64)))) rfl ?_)
    refine s_nil ?_
    have hH42 : Has E w40 [s33, [Hp.one ab (.cells #[(.pointer (some ⟨db, 0, none⟩)), (.int .i64 fr), (.int .i64 n)] 139 (0, 0))], R] := (((hH39.front 4 rfl).front 1 rfl).front 2 rfl).first 3 rfl
    refine t_norm ⟨(z - ((min ((a % 64) + z) 64) - (a % 64))).toNat, _, rfl, ?_, ?_⟩
    · omega
    · exact ⟨((a + ((min ((a % 64) + z) 64) - (a % 64))) % (n * 64)), (z - ((min ((a % 64) + z) 64) - (a % 64))), v32, s33, (acc ++ [(Pc.mk (fr + (a / 64)) (a % 64) (min ((a % 64) + z) 64))]), rfl, hH42, (⟨by omega, by omega⟩), (⟨Int.emod_nonneg _ (by omega), Int.emod_lt_of_pos _ (by omega)⟩), (ho34), (by simp only [List.length_append, List.length_cons, List.length_nil]; omega), (by rw [hacc, allP_step (by omega) ha_.1 (by omega)]; exact (List.append_assoc acc [piece1 fr a z] (allP _ _ _ _)).symm), e9_0, rfl, rfl, e9_6, rfl⟩
  · -- not: 0 < z
    refine wp_exit ?_
    refine t_exit (t_exit (x_in (?_)))
    refine t_norm (hK3 _ _ ?_)
    refine wp_seq_k fun K43 hK43 => ?_
    refine c_region ?_
    refine s_op (o_move (v := va) e9_7 ?_)
    refine s_op (o_assign (v := va) rfl ?_)
    refine s_nil ?_
    refine t_norm (hK43 _ _ ?_)
    refine wp_ret ?_
    refine c_ret1 Try.results80  (v := va) rfl ?_
    have e_ : allP fr (n * 64) a z = [] := allP_none (by omega)
    rw [e_, List.append_nil] at hacc
    exact ⟨_, _, rfl, by rw [hacc]; exact hoa, hH13⟩
end Go.Q
