/-
  Parts of a walk: what functions of the program compute, each told by a theorem (Qsa1, Qsm2, Qsf1, Qsf2, Qsm9, Qsm14, Qsa2, Qsa3, Qsa4, QsSh4, Qsa5, Qsm11, Qsm12, Qsm1, Qsf3, Qsf4, Qsh5).
-/
import Derived.Test.YtmfppdpfljpphaaGreatDoorB3
import Derived.Shelf.Strings.Trim
set_option linter.unusedVariables false
set_option linter.unusedSimpArgs false
set_option linter.unnecessarySimpa false
namespace Go.Q
open Go.Proofs
set_option linter.unusedVariables false
set_option maxRecDepth 100000
attribute [local irreducible] wpList OK Code.wp
set_option maxHeartbeats 4000000 in
theorem alen_c {E w : World} {R : List Hp} {ab db : Nat} {fr n : Int} (hH : Has E w [[Hp.one ab (.cells #[(.pointer (some ⟨db, 0, none⟩)), (.int .i64 fr), (.int .i64 n)] 265 (0, 0))], R]) (hn : 1 ≤ n ∧ n ≤ 4096) :
  Calls Tryz.prog 99 #[(.pointer (some ⟨ab, 0, none⟩))] w fun e w' => e = .returned (.int .i64 (n * 64)) ∧ Has E w' [[Hp.one ab (.cells #[(.pointer (some ⟨db, 0, none⟩)), (.int .i64 fr), (.int .i64 n)] 265 (0, 0))], R] := by
 obtain ⟨hn1, hn2⟩ := hn
 refine zs (args := [(.pointer (some ⟨ab, 0, none⟩))]) Tryz.func99 rfl Tryz.ntmps99 (by simp) ?_
 refine wp_seq_k fun K1 hK1 => ?_
 refine zb ?_
 refine za (ze (v := (.int .i64 0)) rfl ?_)
 refine zf ?_
 refine zc (hK1 _ _ ?_)
 refine wp_seq_k fun K2 hK2 => ?_
 refine wp_seq_k fun K3 hK3 => ?_
 refine zb ?_
 refine za (zd (v := (.pointer (some ⟨ab, 0, none⟩))) rfl ?_)
 refine za (o_pnil (p := some _) Tryz.underlying160 rfl rfl ?_)
 refine zf ?_
 refine zc (hK3 _ _ ?_)
 refine zS rfl rfl ?_
 refine wp_skip ?_
 refine zc (hK2 _ _ ?_)
 refine wp_seq_k fun K4 hK4 => ?_
 refine zb ?_
 refine za (zd (v := (.pointer (some ⟨ab, 0, none⟩))) rfl ?_)
 refine za (zl rfl ?_)
 refine za (zg (k := 2) (fun _ => by kernel_rfl) rfl ?_)
 refine za (zj (v := (.int .i64 n)) Tryz.underlying3 rfl rfl hH (zh 0 rfl) (CellsAt.one rfl) ?_)
 refine za (o_mul (a := n) (b := 64) rfl rfl (w64 (by omega) (by omega)) ?_)
 refine za (ze (v := (.int .i64 (n * 64))) rfl ?_)
 refine zf ?_
 refine zc (hK4 _ _ ?_)
 refine wp_ret ?_
 refine zq Tryz.results99  (v := (.int .i64 (n * 64))) rfl ?_
 exact ⟨rfl, hH⟩
set_option maxHeartbeats 4000000 in
theorem amay_c {E w : World} {R : List Hp} {ab db : Nat} {fr n : Int} (hH : Has E w [[Hp.one ab (.cells #[(.pointer (some ⟨db, 0, none⟩)), (.int .i64 fr), (.int .i64 n)] 265 (0, 0))], R]) (hn : 1 ≤ n ∧ n ≤ 4096) (at_ size : Int) :
  Calls Tryz.prog 191 #[(.pointer (some ⟨ab, 0, none⟩)), (.int .i64 at_), (.int .i64 size)] w fun e w' => e = .returned (.bool (decide (0 ≤ at_ ∧ at_ ≤ 4611686018427387904 ∧ 0 ≤ size ∧ size ≤ n * 64))) ∧ Has E w' [[Hp.one ab (.cells #[(.pointer (some ⟨db, 0, none⟩)), (.int .i64 fr), (.int .i64 n)] 265 (0, 0))], R] := by
 obtain ⟨hn1, hn2⟩ := hn
 refine zs (args := [(.pointer (some ⟨ab, 0, none⟩)), (.int .i64 at_), (.int .i64 size)]) Tryz.func191 rfl Tryz.ntmps191 (by simp) ?_
 refine wp_seq_k fun K1 hK1 => ?_
 refine zb ?_
 refine za (ze (v := (.bool false)) rfl ?_)
 refine zf ?_
 refine zc (hK1 _ _ ?_)
 refine wp_seq_k fun K2 hK2 => ?_
 refine zb ?_
 refine za (zd (v := (.pointer (some ⟨ab, 0, none⟩))) rfl ?_)
 refine za (o_pnnil (p := some _) Tryz.underlying160 rfl rfl ?_)
 refine za (zd (v := (.bool true)) rfl ?_)
 refine zn 9 rfl rfl (zd (v := (.int .i64 at_)) rfl ?_)
 refine zn 9 rfl rfl (o_geq (a := at_) (b := 0) rfl rfl ?_)
 refine za (zo (u := (.bool (decide (0 ≤ at_)))) rfl rfl ?_)
 refine za (zd (v := (.bool (decide (0 ≤ at_)))) rfl ?_)
 by_cases h3 : 0 ≤ at_
 ·
  refine zn 13 rfl (cT h3) (zd (v := (.int .i64 at_)) rfl ?_)
  refine zn 13 rfl (cT h3) (o_leq (a := at_) (b := 4611686018427387904) rfl rfl ?_)
  refine za (zo (u := (.bool (decide (at_ ≤ 4611686018427387904)))) ((rfl : _ = _).trans (cT h3)) rfl ?_)
  refine za (zd (v := (.bool (decide (at_ ≤ 4611686018427387904)))) rfl ?_)
  by_cases h4 : at_ ≤ 4611686018427387904
  ·
   refine zn 17 rfl (cT h4) (zd (v := (.int .i64 size)) rfl ?_)
   refine zn 17 rfl (cT h4) (o_geq (a := size) (b := 0) rfl rfl ?_)
   refine za (zo (u := (.bool (decide (0 ≤ size)))) ((rfl : _ = _).trans (cT h4)) rfl ?_)
   refine za (zd (v := (.bool (decide (0 ≤ size)))) rfl ?_)
   by_cases h5 : 0 ≤ size
   ·
    refine zn 21 rfl (cT h5) (zd (v := (.int .i64 size)) rfl ?_)
    refine zn 21 rfl (cT h5) (zd (v := (.pointer (some ⟨ab, 0, none⟩))) rfl ?_)
    refine zn 21 rfl (cT h5) (zk (vs := #[(.pointer (some ⟨ab, 0, none⟩))]) ca99 rfl (zF rfl) (alen_c hH.all1 ⟨by omega, by omega⟩) ?_)
    rintro _ w8 ⟨rfl, hX6⟩
    refine ⟨_, rfl, ?_⟩
    have hH7 : Has E w8 [[Hp.one ab (.cells #[(.pointer (some ⟨db, 0, none⟩)), (.int .i64 fr), (.int .i64 n)] 265 (0, 0))], R] := hX6.of_all1
    refine zn 21 rfl (cT h5) (o_leq (a := size) (b := n * 64) rfl rfl ?_)
    refine za (zo (u := (.bool (decide (size ≤ n * 64)))) ((rfl : _ = _).trans (cT h5)) rfl ?_)
    refine za (ze (v := (.bool (decide (size ≤ n * 64)))) rfl ?_)
    refine zf ?_
    refine zc (hK2 _ _ ?_)
    refine wp_ret ?_
    refine zq Tryz.results191  (v := (.bool (decide (size ≤ n * 64)))) rfl ?_
    have e_ : decide (size ≤ n * 64) = decide (0 ≤ at_ ∧ at_ ≤ 4611686018427387904 ∧ 0 ≤ size ∧ size ≤ n * 64) := by first | (simp [h3, h4, h5]; done) | (rw [eq_comm, decide_eq_false_iff_not]; omega) | (rw [eq_comm, decide_eq_true_iff]; omega) | (congr 1; apply propext; constructor <;> intro _ <;> first | omega | (refine ⟨?_, ?_, ?_, ?_⟩ <;> omega))
    exact ⟨by rw [← e_], hH7⟩
   ·
    refine zi (b' := false) 21 rfl (cF h5) rfl ?_
    refine zi (b' := false) 21 rfl (cF h5) rfl ?_
    refine zi (b' := false) 21 rfl (cF h5) rfl ?_
    refine zi (b' := false) 21 rfl (cF h5) rfl ?_
    refine za (zm (u := (.bool false)) ((rfl : _ = _).trans (cF h5)) rfl ?_)
    refine za (ze (v := (.bool false)) rfl ?_)
    refine zf ?_
    refine zc (hK2 _ _ ?_)
    refine wp_ret ?_
    refine zq Tryz.results191  (v := (.bool false)) rfl ?_
    have e_ : false = decide (0 ≤ at_ ∧ at_ ≤ 4611686018427387904 ∧ 0 ≤ size ∧ size ≤ n * 64) := by first | (simp [h3, h4, h5]; done) | (rw [eq_comm, decide_eq_false_iff_not]; omega) | (rw [eq_comm, decide_eq_true_iff]; omega) | (congr 1; apply propext; constructor <;> intro _ <;> first | omega | (refine ⟨?_, ?_, ?_, ?_⟩ <;> omega))
    exact ⟨by rw [← e_], hH⟩
  ·
   refine zi (b' := false) 17 rfl (cF h4) rfl ?_
   refine zi (b' := false) 17 rfl (cF h4) rfl ?_
   refine za (zm (u := (.bool false)) ((rfl : _ = _).trans (cF h4)) rfl ?_)
   refine za (zd (v := (.bool false)) rfl ?_)
   refine zi (b' := false) 21 rfl rfl rfl ?_
   refine zi (b' := false) 21 rfl rfl rfl ?_
   refine zi (b' := false) 21 rfl rfl rfl ?_
   refine zi (b' := false) 21 rfl rfl rfl ?_
   refine za (zm (u := (.bool false)) rfl rfl ?_)
   refine za (ze (v := (.bool false)) rfl ?_)
   refine zf ?_
   refine zc (hK2 _ _ ?_)
   refine wp_ret ?_
   refine zq Tryz.results191  (v := (.bool false)) rfl ?_
   have e_ : false = decide (0 ≤ at_ ∧ at_ ≤ 4611686018427387904 ∧ 0 ≤ size ∧ size ≤ n * 64) := by first | (simp [h3, h4]; done) | (rw [eq_comm, decide_eq_false_iff_not]; omega) | (rw [eq_comm, decide_eq_true_iff]; omega) | (congr 1; apply propext; constructor <;> intro _ <;> first | omega | (refine ⟨?_, ?_, ?_, ?_⟩ <;> omega))
   exact ⟨by rw [← e_], hH⟩
 ·
  refine zi (b' := false) 13 rfl (cF h3) rfl ?_
  refine zi (b' := false) 13 rfl (cF h3) rfl ?_
  refine za (zm (u := (.bool false)) ((rfl : _ = _).trans (cF h3)) rfl ?_)
  refine za (zd (v := (.bool false)) rfl ?_)
  refine zi (b' := false) 17 rfl rfl rfl ?_
  refine zi (b' := false) 17 rfl rfl rfl ?_
  refine za (zm (u := (.bool false)) rfl rfl ?_)
  refine za (zd (v := (.bool false)) rfl ?_)
  refine zi (b' := false) 21 rfl rfl rfl ?_
  refine zi (b' := false) 21 rfl rfl rfl ?_
  refine zi (b' := false) 21 rfl rfl rfl ?_
  refine zi (b' := false) 21 rfl rfl rfl ?_
  refine za (zm (u := (.bool false)) rfl rfl ?_)
  refine za (ze (v := (.bool false)) rfl ?_)
  refine zf ?_
  refine zc (hK2 _ _ ?_)
  refine wp_ret ?_
  refine zq Tryz.results191  (v := (.bool false)) rfl ?_
  have e_ : false = decide (0 ≤ at_ ∧ at_ ≤ 4611686018427387904 ∧ 0 ≤ size ∧ size ≤ n * 64) := by first | (simp [h3]; done) | (rw [eq_comm, decide_eq_false_iff_not]; omega) | (rw [eq_comm, decide_eq_true_iff]; omega) | (congr 1; apply propext; constructor <;> intro _ <;> first | omega | (refine ⟨?_, ?_, ?_, ?_⟩ <;> omega))
  exact ⟨by rw [← e_], hH⟩
set_option maxHeartbeats 4000000 in
theorem pieces_c {E w : World} {R : List Hp} {ab db : Nat} {fr n : Int} (hH : Has E w [[Hp.one ab (.cells #[(.pointer (some ⟨db, 0, none⟩)), (.int .i64 fr), (.int .i64 n)] 265 (0, 0))], R]) (hn : 1 ≤ n ∧ n ≤ 4096) (hfr : 0 ≤ fr ∧ fr ≤ 4096) {at_ size : Int} (hat : 0 ≤ at_ ∧ at_ ≤ 4611686018427387904) (hsz : 0 ≤ size ∧ size ≤ n * 64) :
  Calls Tryz.prog 192 #[(.pointer (some ⟨ab, 0, none⟩)), (.int .i64 at_), (.int .i64 size)] w fun e w' => ∃ v' hs', e = .returned v' ∧ Own 269 3 v' (allP fr (n * 64) (at_ % (n * 64)) size).length ((allP fr (n * 64) (at_ % (n * 64)) size).flatMap pcC) hs' ∧ Has E w' [hs', [Hp.one ab (.cells #[(.pointer (some ⟨db, 0, none⟩)), (.int .i64 fr), (.int .i64 n)] 265 (0, 0))], R] := by
 obtain ⟨hn1, hn2⟩ := hn
 obtain ⟨hfr1, hfr2⟩ := hfr
 obtain ⟨hat1, hat2⟩ := hat
 obtain ⟨hsz1, hsz2⟩ := hsz
 refine zs (args := [(.pointer (some ⟨ab, 0, none⟩)), (.int .i64 at_), (.int .i64 size)]) Tryz.func192 rfl Tryz.ntmps192 (by simp) ?_
 refine wp_seq_k fun K1 hK1 => ?_
 refine zb ?_
 refine za (ze (v := (.slice none 0 0)) rfl ?_)
 refine zf ?_
 refine zc (hK1 _ _ ?_)
 refine wp_seq_k fun K2 hK2 => ?_
 refine zb ?_
 refine za (ze (v := (.slice none 0 0)) rfl ?_)
 refine zf ?_
 refine zc (hK2 _ _ ?_)
 refine wp_seq_k fun K3 hK3 => ?_
 refine wp_seq_k fun K4 hK4 => ?_
 refine zb ?_
 refine za (zd (v := (.int .i64 at_)) rfl ?_)
 refine za (zd (v := (.pointer (some ⟨ab, 0, none⟩))) rfl ?_)
 refine za (zk (vs := #[(.pointer (some ⟨ab, 0, none⟩))]) ca99 rfl (zF rfl) (alen_c hH.all1 ⟨by omega, by omega⟩) ?_)
 rintro _ w7 ⟨rfl, hX5⟩
 refine ⟨_, rfl, ?_⟩
 have hH6 : Has E w7 [[Hp.one ab (.cells #[(.pointer (some ⟨db, 0, none⟩)), (.int .i64 fr), (.int .i64 n)] 265 (0, 0))], R] := hX5.of_all1
 have hm8 := emod_b at_ (n * 64) (by omega)
 refine za (o_rem (a := at_) (b := n * 64) (c := at_ % (n * 64)) rfl rfl (by omega) ((Int.tmod_eq_emod_of_nonneg (by first | exact Int.natCast_nonneg _ | omega))) ?_)
 refine za (ze (v := (.int .i64 (at_ % (n * 64)))) rfl ?_)
 refine zf ?_
 refine zc (hK4 _ _ ?_)
 refine wp_block ?_
 let I10 : Nat → (Nat → Value) → World → Prop := fun n__ r__ w__ => ∃ (a : Int) (z : Int) (va : Value) (ha : List Hp) (acc : List Pc), n__ = z.toNat ∧ Has E w__ [ha, [Hp.one ab (.cells #[(.pointer (some ⟨db, 0, none⟩)), (.int .i64 fr), (.int .i64 n)] 265 (0, 0))], R] ∧ (0 ≤ z ∧ z ≤ size) ∧ (0 ≤ a ∧ a < n * 64) ∧ (Own 269 3 va acc.length (acc.flatMap pcC) ha) ∧ ((acc.length : Int) + z ≤ size) ∧ (allP fr (n * 64) (at_ % (n * 64)) size = acc ++ allP fr (n * 64) a z) ∧ r__ 0 = (.pointer (some ⟨ab, 0, none⟩)) ∧ r__ 1 = (.int .i64 a) ∧ r__ 2 = (.int .i64 z) ∧ r__ 6 = (.slice none 0 0) ∧ r__ 7 = va
 have hH11 : Has E w7 [[], [Hp.one ab (.cells #[(.pointer (some ⟨db, 0, none⟩)), (.int .i64 fr), (.int .i64 n)] 265 (0, 0))], R] := (Has.nil ((hH6.front 1 rfl).front 1 rfl)).first 3 rfl
 refine zT I10 _ ⟨(at_ % (n * 64)), size, (.slice none 0 0), [], [], rfl, hH11, ⟨by omega, by omega⟩, ⟨Int.emod_nonneg _ (by omega), Int.emod_lt_of_pos _ (by omega)⟩, Own.nil 269 3, (by simp), rfl, rfl, rfl, rfl, rfl, rfl⟩ ?_
 rintro n_ r14 w12 ⟨a, z, va, ha, acc, rfl, hH13, hz, ha_, hoa, hct, hacc, e9_0, e9_1, e9_2, e9_6, e9_7⟩
 refine wp_seq_k fun K15 hK15 => ?_
 refine wp_seq_k fun K16 hK16 => ?_
 refine zb ?_
 refine za (zd (v := (.int .i64 z)) e9_2 ?_)
 refine za (o_gtr (a := z) (b := 0) rfl rfl ?_)
 refine zf ?_
 refine zc (hK16 _ _ ?_)
 refine zt rfl (fun h17 => ?_) (fun h17 => ?_)
 ·
  refine wp_skip ?_
  refine zc (hK15 _ _ ?_)
  refine wp_seq_k fun K18 hK18 => ?_
  refine wp_block ?_
  refine wp_seq_k fun K19 hK19 => ?_
  refine zb ?_
  refine za (zd (v := (.pointer (some ⟨ab, 0, none⟩))) e9_0 ?_)
  refine za (zl rfl ?_)
  refine za (zg (k := 1) (fun _ => by kernel_rfl) rfl ?_)
  refine za (zj (v := (.int .i64 fr)) Tryz.underlying3 rfl rfl hH13 (zh 1 rfl) (CellsAt.one rfl) ?_)
  refine za (zd (v := (.int .i64 a)) e9_1 ?_)
  refine za (o_quo (a := a) (b := 64) (c := a / 64) rfl rfl (by omega) (by rw [(Int.tdiv_eq_ediv_of_nonneg (by first | exact Int.natCast_nonneg _ | omega))]; exact w64 (by omega) (by omega)) ?_)
  refine za (zH (a := fr) (b := a / 64) rfl rfl (w64 (by omega) (by omega)) ?_)
  refine za (zd (v := (.int .i64 a)) e9_1 ?_)
  refine za (o_rem (a := a) (b := 64) (c := a % 64) rfl rfl (by omega) ((Int.tmod_eq_emod_of_nonneg (by first | exact Int.natCast_nonneg _ | omega))) ?_)
  refine za (zK (v := (.agg #[(.int .i64 (fr + (a / 64))), (.int .i64 (a % 64)), (.int .i64 0)])) (fun _ => by kernel_rfl) ?_)
  refine za (zU (cs := #[(.int .i64 0), (.int .i64 0), (.int .i64 0)]) ti269 rfl hH13 fun b20 w21 hH22 => ?_)
  refine zB (zw (vs := [(.int .i64 (fr + (a / 64))), (.int .i64 (a % 64)), (.int .i64 0)]) (c' := #[(.int .i64 (fr + (a / 64))), (.int .i64 (a % 64)), (.int .i64 0)]) ti269 rfl rfl rfl rfl (by intro u hu; simp only [List.mem_cons, List.not_mem_nil, or_false] at hu; rcases hu with rfl | rfl | rfl <;> first | rfl) (by simp) (by kernel_rfl) (hH22.front 0 rfl) fun w23 hH24 => ?_)
  refine zf ?_
  refine zc (hK19 _ _ ?_)
  refine wp_seq_k fun K25 hK25 => ?_
  refine zb ?_
  refine za (zg (k := 1) (fun _ => by kernel_rfl) rfl ?_)
  refine za (zj (v := (.int .i64 (a % 64))) Tryz.underlying3 rfl rfl hH24 (zh 0 rfl) (CellsAt.one rfl) ?_)
  refine za (zd (v := (.int .i64 z)) e9_2 ?_)
  refine za (zH (a := a % 64) (b := z) rfl rfl (w64 (by omega) (by omega)) ?_)
  refine za (o_min (a := (a % 64) + z) (b := 64) rfl rfl ?_)
  refine za (zg (k := 2) (fun _ => by kernel_rfl) rfl ?_)
  refine zB (zJ (c' := #[(.int .i64 (fr + (a / 64))), (.int .i64 (a % 64)), (.int .i64 (min ((a % 64) + z) 64))]) ti3 rfl rfl rfl (by simp) rfl (hH24.front 0 rfl) fun w26 hH27 => ?_)
  refine zf ?_
  refine zc (hK25 _ _ ?_)
  refine wp_seq_k fun K28 hK28 => ?_
  refine zb ?_
  refine za (zd (v := va) e9_7 ?_)
  refine za (zC (cs := [(.int .i64 (fr + (a / 64))), (.int .i64 (a % 64)), (.int .i64 (min ((a % 64) + z) 64))]) Tryz.underlying269 rfl ti269 rfl hH27 (zh 0 rfl) (CellsAt.one rfl) ?_)
  refine za (zu (ps := #[(0, (.agg #[(.int .i64 (fr + (a / 64))), (.int .i64 (a % 64)), (.int .i64 (min ((a % 64) + z) 64))]))]) (cells := #[(.int .i64 (fr + (a / 64))), (.int .i64 (a % 64)), (.int .i64 (min ((a % 64) + z) 64))]) Tryz.underlying266 ti269 (by decide) (parts1 rfl) (by kernel_rfl) hH27 fun b29 w30 hH31 => ?_)
  refine za (o_append Tryz.underlying266 ti269 rfl (by decide) rfl hoa rfl (sl_litF (f := pcC) (l := [(Pc.mk (fr + (a / 64)) (a % 64) (min ((a % 64) + z) 64))]) pcC_len rfl rfl (by simp)) (hH31.front 2 rfl) (zh 0 rfl) (one_pcC _) (by simp; omega) (by simp; omega) fun v32 s33 w35 ho34 hH36 => ?_)
  have ho34 : Own 269 3 v32 (acc ++ [(Pc.mk (fr + (a / 64)) (a % 64) (min ((a % 64) + z) 64))]).length ((acc ++ [(Pc.mk (fr + (a / 64)) (a % 64) (min ((a % 64) + z) 64))]).flatMap pcC) s33 := ho34.appF
  refine za (ze (v := v32) rfl ?_)
  refine zf ?_
  refine zc (hK28 _ _ ?_)
  refine wp_seq_k fun K37 hK37 => ?_
  refine zb ?_
  refine za (zd (v := (.int .i64 a)) e9_1 ?_)
  refine za (zg (k := 2) (fun _ => by kernel_rfl) rfl ?_)
  refine za (zj (v := (.int .i64 (min ((a % 64) + z) 64))) Tryz.underlying3 rfl rfl hH36 (zh 2 rfl) (CellsAt.one rfl) ?_)
  refine za (zg (k := 1) (fun _ => by kernel_rfl) rfl ?_)
  refine za (zj (v := (.int .i64 (a % 64))) Tryz.underlying3 rfl rfl hH36 (zh 2 rfl) (CellsAt.one rfl) ?_)
  refine za (o_sub (a := min ((a % 64) + z) 64) (b := a % 64) rfl rfl (w64 (by omega) (by omega)) ?_)
  refine za (zH (a := a) (b := (min ((a % 64) + z) 64) - (a % 64)) rfl rfl (w64 (by omega) (by omega)) ?_)
  refine za (ze (v := (.int .i64 (a + ((min ((a % 64) + z) 64) - (a % 64))))) rfl ?_)
  refine zf ?_
  refine zc (hK37 _ _ ?_)
  refine zb ?_
  refine za (zd (v := (.int .i64 z)) e9_2 ?_)
  refine za (zg (k := 2) (fun _ => by kernel_rfl) rfl ?_)
  refine za (zj (v := (.int .i64 (min ((a % 64) + z) 64))) Tryz.underlying3 rfl rfl hH36 (zh 2 rfl) (CellsAt.one rfl) ?_)
  refine za (zg (k := 1) (fun _ => by kernel_rfl) rfl ?_)
  refine za (zj (v := (.int .i64 (a % 64))) Tryz.underlying3 rfl rfl hH36 (zh 2 rfl) (CellsAt.one rfl) ?_)
  refine za (o_sub (a := min ((a % 64) + z) 64) (b := a % 64) rfl rfl (w64 (by omega) (by omega)) ?_)
  refine za (o_sub (a := z) (b := (min ((a % 64) + z) 64) - (a % 64)) rfl rfl (w64 (by omega) (by omega)) ?_)
  refine za (ze (v := (.int .i64 (z - ((min ((a % 64) + z) 64) - (a % 64))))) rfl ?_)
  refine zf ?_
  refine zG ?_
  refine zc (hK18 _ _ ?_)
  refine zb ?_
  refine za (zd (v := (.int .i64 (a + ((min ((a % 64) + z) 64) - (a % 64))))) rfl ?_)
  refine za (zd (v := (.pointer (some ⟨ab, 0, none⟩))) e9_0 ?_)
  refine za (zk (vs := #[(.pointer (some ⟨ab, 0, none⟩))]) ca99 rfl (zF rfl) (alen_c (hH36.front 3 rfl).all1 ⟨by omega, by omega⟩) ?_)
  rintro _ w40 ⟨rfl, hX38⟩
  refine ⟨_, rfl, ?_⟩
  have hH39 : Has E w40 [[Hp.one ab (.cells #[(.pointer (some ⟨db, 0, none⟩)), (.int .i64 fr), (.int .i64 n)] 265 (0, 0))], s33, [Hp.one b29 (.cells #[(.int .i64 (fr + (a / 64))), (.int .i64 (a % 64)), (.int .i64 (min ((a % 64) + z) 64))] 269 (0, 0))], [Hp.one b20 (.cells #[(.int .i64 (fr + (a / 64))), (.int .i64 (a % 64)), (.int .i64 (min ((a % 64) + z) 64))] 269 (0, 0))], R] := hX38.of_all1
  have hm41 := emod_b (a + ((min ((a % 64) + z) 64) - (a % 64))) (n * 64) (by omega)
  refine za (o_rem (a := a + ((min ((a % 64) + z) 64) - (a % 64))) (b := n * 64) (c := (a + ((min ((a % 64) + z) 64) - (a % 64))) % (n * 64)) rfl rfl (by omega) ((Int.tmod_eq_emod_of_nonneg (by first | exact Int.natCast_nonneg _ | omega))) ?_)
  refine za (ze (v := (.int .i64 ((a + ((min ((a % 64) + z) 64) - (a % 64))) % (n * 64)))) rfl ?_)
  refine zf ?_
  have hH42 : Has E w40 [s33, [Hp.one ab (.cells #[(.pointer (some ⟨db, 0, none⟩)), (.int .i64 fr), (.int .i64 n)] 265 (0, 0))], R] := (((hH39.front 4 rfl).front 1 rfl).front 2 rfl).first 3 rfl
  refine zc ⟨(z - ((min ((a % 64) + z) 64) - (a % 64))).toNat, _, rfl, ?_, ?_⟩
  · omega
  · exact ⟨((a + ((min ((a % 64) + z) 64) - (a % 64))) % (n * 64)), (z - ((min ((a % 64) + z) 64) - (a % 64))), v32, s33, (acc ++ [(Pc.mk (fr + (a / 64)) (a % 64) (min ((a % 64) + z) 64))]), rfl, hH42, (⟨by omega, by omega⟩), (⟨Int.emod_nonneg _ (by omega), Int.emod_lt_of_pos _ (by omega)⟩), (ho34), (by simp only [List.length_append, List.length_cons, List.length_nil]; omega), (by rw [hacc, allP_step (by omega) ha_.1 (by omega)]; exact (List.append_assoc acc [piece1 fr a z] (allP _ _ _ _)).symm), e9_0, rfl, rfl, e9_6, rfl⟩
 ·
  refine wp_exit ?_
  refine zx (zx (x_in (?_)))
  refine zc (hK3 _ _ ?_)
  refine wp_seq_k fun K43 hK43 => ?_
  refine zb ?_
  refine za (zd (v := va) e9_7 ?_)
  refine za (ze (v := va) rfl ?_)
  refine zf ?_
  refine zc (hK43 _ _ ?_)
  refine wp_ret ?_
  refine zq Tryz.results192  (v := va) rfl ?_
  have e_ : allP fr (n * 64) a z = [] := allP_none (by omega)
  rw [e_, List.append_nil] at hacc
  exact ⟨_, _, rfl, by rw [hacc]; exact hoa, hH13⟩
end Go.Q
namespace Go.Q
open Go.Proofs
set_option linter.unusedVariables false
set_option maxRecDepth 100000
attribute [local irreducible] wpList OK Code.wp
set_option maxHeartbeats 4000000 in
theorem dset_c {E w : World} {R sg : List Hp} {pb db ab : Nat} {d : Dv} {fr n : Int} (hH : Has E w [sg, [Hp.one pb (.cells #[(.bool d.p.off), (.bool d.p.armed), (.int .i64 d.p.left), (.int .i64 d.p.uses)] 145 (0, 0))], [Hp.one ab (.cells #[(.pointer (some ⟨db, 0, none⟩)), (.int .i64 fr), (.int .i64 n)] 265 (0, 0))], R]) (hd : DevAt pb sg db d.la d.lo) {k : Nat} (hf : Few d.p k) (hk : k ≤ 500000) (h4 : d.la.length ≤ 4096) (h64 : Full64 d.la) (hlk : LoOk d.lo d.la.length) (hfr : 0 ≤ fr) (hn : 1 ≤ n) (hfn : fr + n ≤ d.la.length) {at_ : Int} {v : Value} {data : List Bs} (hv : Sl R 1 v data.length (data.map sV)) (hdn : data.length ≤ 100000) (hdl : data.flatten.length ≤ 100000000) :
  Calls Tryz.prog 108 #[(.pointer (some ⟨ab, 0, none⟩)), (.int .i64 at_), v] w fun e w' => ∃ sg', e = .returned (.int .i64 (setA d fr n at_ data.flatten).1) ∧ DevAt pb sg' db (setA d fr n at_ data.flatten).2.la (setA d fr n at_ data.flatten).2.lo ∧ Has E w' [sg', [Hp.one pb (.cells #[(.bool ((setA d fr n at_ data.flatten).2).p.off), (.bool ((setA d fr n at_ data.flatten).2).p.armed), (.int .i64 ((setA d fr n at_ data.flatten).2).p.left), (.int .i64 ((setA d fr n at_ data.flatten).2).p.uses)] 145 (0, 0))], [Hp.one ab (.cells #[(.pointer (some ⟨db, 0, none⟩)), (.int .i64 fr), (.int .i64 n)] 265 (0, 0))], R] := by
 have hz0_ : (0 : Int) ≤ (data.flatten.length : Int) := by omega
 refine zs (args := [(.pointer (some ⟨ab, 0, none⟩)), (.int .i64 at_), v]) Tryz.func108 rfl Tryz.ntmps108 (by simp) ?_
 refine wp_seq_k fun K1 hK1 => ?_
 refine zb ?_
 refine za (ze (v := (.int .i64 0)) rfl ?_)
 refine zf ?_
 refine zc (hK1 _ _ ?_)
 refine wp_seq_k fun K2 hK2 => ?_
 refine zb ?_
 refine za (ze (v := (.int .i64 0)) rfl ?_)
 refine zf ?_
 refine zc (hK2 _ _ ?_)
 refine wp_seq_k fun K3 hK3 => ?_
 refine wp_seq_k fun K4 hK4 => ?_
 refine zb ?_
 refine za (zd (v := v) rfl ?_)
 refine za (zY Tryz.underlying46 rfl hv ?_)
 refine za (zd (v := (.int .i64 0)) rfl ?_)
 refine zf ?_
 refine zc (hK4 _ _ ?_)
 refine wp_block ?_
 let I6 : Nat → (Nat → Value) → World → Prop := fun n__ r__ w__ => ∃ (i : Nat) (z : Int), n__ = data.length - i ∧ Has E w__ [sg, [Hp.one pb (.cells #[(.bool d.p.off), (.bool d.p.armed), (.int .i64 d.p.left), (.int .i64 d.p.uses)] 145 (0, 0))], [Hp.one ab (.cells #[(.pointer (some ⟨db, 0, none⟩)), (.int .i64 fr), (.int .i64 n)] 265 (0, 0))], R] ∧ (i ≤ data.length) ∧ (z = ((data.take i).flatten.length : Int)) ∧ r__ 0 = (.pointer (some ⟨ab, 0, none⟩)) ∧ r__ 1 = (.int .i64 at_) ∧ r__ 2 = v ∧ r__ 6 = (.int .i64 0) ∧ r__ 7 = (.int .i64 z) ∧ r__ 17 = v ∧ r__ 18 = (.int .i64 ((data.length : Nat) : Int)) ∧ r__ 19 = (.int .i64 (i : Int))
 refine zT I6 _ ⟨0, 0, rfl, hH, Nat.zero_le _, (by simp), rfl, rfl, rfl, rfl, rfl, rfl, rfl, rfl⟩ ?_
 rintro n_ r9 w7 ⟨i, z, rfl, hH8, hi, hz, e5_0, e5_1, e5_2, e5_6, e5_7, e5_17, e5_18, e5_19⟩
 have hzl := flat_take_le data i
 refine wp_seq_k fun K10 hK10 => ?_
 refine zb ?_
 refine za (zL (a := (i : Int)) (b := ((data.length : Nat) : Int)) e5_19 e5_18 ?_)
 refine zf ?_
 refine zc (hK10 _ _ ?_)
 refine wp_seq_k fun K11 hK11 => ?_
 refine zt rfl (fun h12 => ?_) (fun h12 => ?_)
 ·
  refine wp_skip ?_
  refine zc (hK11 _ _ ?_)
  refine wp_seq_k fun K13 hK13 => ?_
  refine wp_block ?_
  refine wp_seq_k fun K14 hK14 => ?_
  refine zb ?_
  obtain ⟨x18, hx19⟩ : ∃ x_, data[((i : Int)).toNat]? = some x_ := zM (by omega)
  refine za (yc Tryz.underlying46 ti9 e5_17 hv e5_19 (by omega) hx19 fun b15 o16 hc17 => ?_)
  refine za (zj (v := (S x18)) Tryz.underlying9 rfl rfl hH8 (zh 3 rfl) hc17 ?_)
  refine za (ze (v := (S x18)) rfl ?_)
  refine zf ?_
  refine zc (hK14 _ _ ?_)
  refine zb ?_
  refine za (zd (v := (.int .i64 z)) e5_7 ?_)
  refine za (zd (v := (S x18)) rfl ?_)
  refine za (yb Tryz.underlying9 rfl ?_)
  refine za (zu (ps := #[(0, (.int .i64 z)), (1, (.int .i64 (x18.length : Int)))]) (cells := #[(.int .i64 z), (.int .i64 (x18.length : Int))]) Tryz.underlying47 ti3 (by decide) (parts2 rfl rfl) (by kernel_rfl) hH8 fun b20 w21 hH22 => ?_)
  have hxl_ := flat_take_le data (i + 1)
  rw [flatten_take_succ (show data[i]? = some _ from hx19), List.length_append] at hxl_
  refine za (zk (vs := #[(.slice (some ⟨b20, 0, none⟩) 2 2)]) ca198 rfl (zF rfl) ((by have h_ := sum_c hH22.all (l := [z, (x18.length : Int)]) ((zW (f := iV) (l := [z, (x18.length : Int)]) rfl rfl (by simp)).mono (zh 0 rfl)); rwa [sum2 ⟨by omega, by omega⟩ ⟨by omega, by omega⟩] at h_)) ?_)
  rintro _ w25 ⟨rfl, hX23⟩
  refine ⟨_, rfl, ?_⟩
  have hH24 := hX23.of_all
  refine za (ze (v := (.int .i64 (z + (x18.length : Int)))) rfl ?_)
  refine zf ?_
  refine zG ?_
  refine zc (hK13 _ _ ?_)
  refine zb ?_
  refine za (zH (a := (i : Int)) (b := 1) e5_19 rfl (w64 (by omega) (by omega)) ?_)
  refine za (zd (v := (.int .i64 ((i : Int) + 1))) rfl ?_)
  refine zf ?_
  have hH26 : Has E w25 [sg, [Hp.one pb (.cells #[(.bool d.p.off), (.bool d.p.armed), (.int .i64 d.p.left), (.int .i64 d.p.uses)] 145 (0, 0))], [Hp.one ab (.cells #[(.pointer (some ⟨db, 0, none⟩)), (.int .i64 fr), (.int .i64 n)] 265 (0, 0))], R] := ((((hH24.front 4 rfl).front 4 rfl).front 4 rfl).front 4 rfl).first 4 rfl
  refine zc ⟨data.length - (i + 1), _, rfl, ?_, ?_⟩
  · omega
  · exact ⟨(i + 1), (z + (x18.length : Int)), rfl, hH26, (by omega), (by rw [flatten_take_succ (show data[i]? = some _ from hx19), List.length_append]; omega), e5_0, e5_1, e5_2, e5_6, rfl, e5_17, e5_18, rfl⟩
 ·
  refine wp_exit ?_
  refine zx (zx (x_in (?_)))
  refine zc (hK3 _ _ ?_)
  refine wp_seq_k fun K27 hK27 => ?_
  refine wp_seq_k fun K28 hK28 => ?_
  refine zb ?_
  refine za (zd (v := (.pointer (some ⟨ab, 0, none⟩))) e5_0 ?_)
  refine za (zd (v := (.int .i64 at_)) e5_1 ?_)
  refine za (zd (v := (.int .i64 z)) e5_7 ?_)
  refine za (zk (vs := #[(.pointer (some ⟨ab, 0, none⟩)), (.int .i64 at_), (.int .i64 z)]) ca191 rfl (args3 rfl rfl rfl) (amay_c (hH8.front 2 rfl).all1 ⟨by omega, by omega⟩ at_ z) ?_)
  rintro _ w31 ⟨rfl, hX29⟩
  refine ⟨_, rfl, ?_⟩
  have hH30 : Has E w31 [[Hp.one ab (.cells #[(.pointer (some ⟨db, 0, none⟩)), (.int .i64 fr), (.int .i64 n)] 265 (0, 0))], sg, [Hp.one pb (.cells #[(.bool d.p.off), (.bool d.p.armed), (.int .i64 d.p.left), (.int .i64 d.p.uses)] 145 (0, 0))], R] := hX29.of_all1
  refine za (o_not2 (b := decide (0 ≤ at_ ∧ at_ ≤ 4611686018427387904 ∧ 0 ≤ z ∧ z ≤ n * 64)) (b' := decide (¬ (0 ≤ at_ ∧ at_ ≤ 4611686018427387904 ∧ 0 ≤ z ∧ z ≤ n * 64))) rfl not_dec ?_)
  refine zf ?_
  refine zc (hK28 _ _ ?_)
  refine zt rfl (fun h32 => ?_) (fun h32 => ?_)
  ·
   have hzz : z = (data.flatten.length : Int) := by rw [hz, show i = data.length by omega, List.take_of_length_le (Nat.le_refl _)]
   refine wp_seq_k fun K33 hK33 => ?_
   refine zb ?_
   refine za (ze (v := (.int .i64 1)) rfl ?_)
   refine zf ?_
   refine zc (hK33 _ _ ?_)
   refine wp_ret ?_
   refine zv (zq Tryz.results108  (v := (.int .i64 1)) rfl ?_)
   have hH34 : Has E w31 [sg, [Hp.one pb (.cells #[(.bool d.p.off), (.bool d.p.armed), (.int .i64 d.p.left), (.int .i64 d.p.uses)] 145 (0, 0))], [Hp.one ab (.cells #[(.pointer (some ⟨db, 0, none⟩)), (.int .i64 fr), (.int .i64 n)] 265 (0, 0))], R] := ((((hH30.front 3 rfl).front 1 rfl).front 3 rfl).front 3 rfl).first 4 rfl
   have hE_ : (setA d fr n at_ data.flatten) = (1, d) := if_neg (show ¬ mayA n at_ (data.flatten.length : Int) by rw [← hzz]; exact h32)
   exact ⟨_, by rw [hE_], by rw [hE_]; exact hd, by rw [hE_]; exact hH34⟩
  ·
   have hzz : z = (data.flatten.length : Int) := by rw [hz, show i = data.length by omega, List.take_of_length_le (Nat.le_refl _)]
   obtain ⟨hat1, hat2, hsz1, hsz2⟩ := Classical.not_not.1 h32
   refine wp_skip ?_
   refine zc (hK27 _ _ ?_)
   refine wp_seq_k fun K35 hK35 => ?_
   refine wp_seq_k fun K36 hK36 => ?_
   refine zb ?_
   refine za (zd (v := (.pointer (some ⟨ab, 0, none⟩))) e5_0 ?_)
   refine za (zl rfl ?_)
   refine za (zg (k := 0) (fun _ => by kernel_rfl) rfl ?_)
   refine za (zj (v := (.pointer (some ⟨db, 0, none⟩))) Tryz.underlying25 rfl rfl hH30 (zh 0 rfl) (CellsAt.one rfl) ?_)
   refine za (zk (vs := #[(.pointer (some ⟨db, 0, none⟩))]) ca186 rfl (zF rfl) (don_d (p := d.p) (la := d.la) (lo := d.lo) ((hH30.front 2 rfl).front 2 rfl).all2 hd ) ?_)
   rintro _ w39 ⟨rfl, hX37⟩
   refine ⟨_, rfl, ?_⟩
   have hH38 : Has E w39 [sg, [Hp.one pb (.cells #[(.bool d.p.off), (.bool d.p.armed), (.int .i64 d.p.left), (.int .i64 d.p.uses)] 145 (0, 0))], [Hp.one ab (.cells #[(.pointer (some ⟨db, 0, none⟩)), (.int .i64 fr), (.int .i64 n)] 265 (0, 0))], R] := hX37.of_all2
   refine za (o_not rfl ?_)
   refine zf ?_
   refine zc (hK36 _ _ ?_)
   refine zX rfl (fun h40 => ?_) (fun h40 => ?_)
   ·
    have h40_n : (!d.p.off) = false := by first | simpa using h40 | exact Bool.of_not_eq_true (fun g_ => by rw [g_] at h40; cases h40)
    have h40_n_n : d.p.off = true := by first | simpa using h40_n | exact Bool.of_not_eq_false (fun g_ => by rw [g_] at h40_n; cases h40_n)
    refine wp_seq_k fun K41 hK41 => ?_
    refine zb ?_
    refine za (ze (v := (.int .i64 6)) rfl ?_)
    refine zf ?_
    refine zc (hK41 _ _ ?_)
    refine wp_ret ?_
    refine zv (zq Tryz.results108  (v := (.int .i64 6)) rfl ?_)
    have hE_ : (setA d fr n at_ data.flatten) = (6, d) := (if_pos (show mayA n at_ (data.flatten.length : Int) by rw [← hzz]; exact Classical.not_not.1 h32)).trans (if_pos (by simpa using h40))
    exact ⟨_, by rw [hE_], by rw [hE_]; exact hd, by rw [hE_]; exact hH38⟩
   ·
    have h40_n : (!d.p.off) = true := by first | simpa using h40 | exact Bool.of_not_eq_false (fun g_ => by rw [g_] at h40; cases h40)
    have h40_n_n : d.p.off = false := by first | simpa using h40_n | exact Bool.of_not_eq_true (fun g_ => by rw [g_] at h40_n; cases h40_n)
    refine wp_skip ?_
    refine zc (hK35 _ _ ?_)
    refine wp_seq_k fun K42 hK42 => ?_
    refine zb ?_
    refine za (zd (v := v) e5_2 ?_)
    refine za (zk (vs := #[v, (S ([] : List UInt8))]) ca118 rfl (zI rfl rfl) (join_c hH38.all (l := data) (hv.mono (zh 3 rfl)) (by first | omega | simp) (by first | omega | (simp only [List.flatten_cons, List.flatten_nil, List.length_append, List.length_take, List.length_drop, List.length_nil]; omega))) ?_)
    rintro _ w45 ⟨rfl, hX43⟩
    refine ⟨_, rfl, ?_⟩
    have hH44 := hX43.of_all
    refine za (ze (v := (S data.flatten)) rfl ?_)
    refine zf ?_
    refine zc (hK42 _ _ ?_)
    refine wp_seq_k fun K46 hK46 => ?_
    refine wp_seq_k fun K47 hK47 => ?_
    refine zb ?_
    refine za (zd (v := (.pointer (some ⟨ab, 0, none⟩))) e5_0 ?_)
    refine za (zd (v := (.int .i64 at_)) e5_1 ?_)
    refine za (zd (v := (.int .i64 z)) e5_7 ?_)
    refine za (zk (vs := #[(.pointer (some ⟨ab, 0, none⟩)), (.int .i64 at_), (.int .i64 z)]) ca192 rfl (args3 rfl rfl rfl) (pieces_c (hH44.front 2 rfl).all1 ⟨by omega, by omega⟩ ⟨by omega, by omega⟩ (at_ := at_) (size := z) ⟨by omega, by omega⟩ ⟨by omega, by omega⟩) ?_)
    rintro _ w53 ⟨v48, s49, rfl, ho50, hX51⟩
    refine ⟨_, rfl, ?_⟩
    have hH52 : Has E w53 [s49, [Hp.one ab (.cells #[(.pointer (some ⟨db, 0, none⟩)), (.int .i64 fr), (.int .i64 n)] 265 (0, 0))], sg, [Hp.one pb (.cells #[(.bool d.p.off), (.bool d.p.armed), (.int .i64 d.p.left), (.int .i64 d.p.uses)] 145 (0, 0))], R] := hX51.of_all2
    refine za (zY Tryz.underlying266 rfl ho50.sl ?_)
    refine za (zd (v := (.int .i64 0)) rfl ?_)
    refine zf ?_
    refine zc (hK47 _ _ ?_)
    refine wp_block ?_
    have hpl := pieces_count (fr := fr) (L := n * 64) z.toNat (at_ % (n * 64)) z
    have hpk : ∀ p ∈ (allP fr (n * 64) (at_ % (n * 64)) z), PcOk fr n p := pieces_ok (fr := fr) (n := n) (by omega) z.toNat (at_ % (n * 64)) z (Int.emod_nonneg _ (by omega)) (Int.emod_lt_of_pos _ (by omega))
    have hpe : (allP fr (n * 64) (at_ % (n * 64)) z).length ≤ z.toNat := hpl
    have hpn : plen (allP fr (n * 64) (at_ % (n * 64)) z) = z := pieces_len (by omega) _ _ _ (Int.emod_nonneg _ (by omega)) (by omega) (Nat.le_refl _)
    have hon_ : d.p.off = false := by simpa using h40
    let I55 : Nat → (Nat → Value) → World → Prop := fun n__ r__ w__ => ∃ (j : Nat) (rest : Bs) (dc : Dv) (sgc : List Hp), n__ = (allP fr (n * 64) (at_ % (n * 64)) z).length - j ∧ Has E w__ [sgc, [Hp.one pb (.cells #[(.bool dc.p.off), (.bool dc.p.armed), (.int .i64 dc.p.left), (.int .i64 dc.p.uses)] 145 (0, 0))], s49, [Hp.one ab (.cells #[(.pointer (some ⟨db, 0, none⟩)), (.int .i64 fr), (.int .i64 n)] 265 (0, 0))], R] ∧ (j ≤ (allP fr (n * 64) (at_ % (n * 64)) z).length) ∧ (DevAt pb sgc db dc.la dc.lo) ∧ (dc.la = d.la) ∧ (LoOk dc.lo dc.la.length) ∧ (Few dc.p (k + j)) ∧ (dc.p.off = false) ∧ ((rest.length : Int) = plen ((allP fr (n * 64) (at_ % (n * 64)) z).drop j)) ∧ (asetD (allP fr (n * 64) (at_ % (n * 64)) z) d data.flatten = asetD ((allP fr (n * 64) (at_ % (n * 64)) z).drop j) dc rest) ∧ r__ 0 = (.pointer (some ⟨ab, 0, none⟩)) ∧ r__ 1 = (.int .i64 at_) ∧ r__ 2 = v ∧ r__ 7 = (.int .i64 z) ∧ r__ 10 = (S rest) ∧ r__ 17 = v ∧ r__ 18 = (.int .i64 ((data.length : Nat) : Int)) ∧ r__ 19 = (.int .i64 (i : Int)) ∧ r__ 20 = (.bool (decide ((i : Int) < ((data.length : Nat) : Int)))) ∧ r__ 33 = (.bool (decide (¬ (0 ≤ at_ ∧ at_ ≤ 4611686018427387904 ∧ 0 ≤ z ∧ z ≤ n * 64)))) ∧ r__ 39 = (.bool (!(!d.p.off))) ∧ r__ 45 = v48 ∧ r__ 46 = (.int .i64 (((allP fr (n * 64) (at_ % (n * 64)) z).length : Nat) : Int)) ∧ r__ 47 = (.int .i64 (j : Int))
    have hH56 : Has E w53 [sg, [Hp.one pb (.cells #[(.bool d.p.off), (.bool d.p.armed), (.int .i64 d.p.left), (.int .i64 d.p.uses)] 145 (0, 0))], s49, [Hp.one ab (.cells #[(.pointer (some ⟨db, 0, none⟩)), (.int .i64 fr), (.int .i64 n)] 265 (0, 0))], R] := (((((hH52.front 4 rfl).front 2 rfl).front 2 rfl).front 4 rfl).front 4 rfl).first 5 rfl
    refine zT I55 _ ⟨0, data.flatten, d, sg, rfl, hH56, Nat.zero_le _, hd, rfl, hlk, hf, hon_, (by rw [List.drop_zero, hpn]; omega), rfl, e5_0, e5_1, e5_2, e5_7, rfl, e5_17, e5_18, e5_19, rfl, rfl, rfl, rfl, rfl, rfl⟩ ?_
    rintro n_ r59 w57 ⟨j, rest, dc, sgc, rfl, hH58, hj, hdc, hla2, hlc2, hfc, hon2, hrest, hst, e54_0, e54_1, e54_2, e54_7, e54_10, e54_17, e54_18, e54_19, e54_20, e54_33, e54_39, e54_45, e54_46, e54_47⟩
    refine wp_seq_k fun K60 hK60 => ?_
    refine zb ?_
    refine za (zL (a := (j : Int)) (b := (((allP fr (n * 64) (at_ % (n * 64)) z).length : Nat) : Int)) e54_47 e54_46 ?_)
    refine zf ?_
    refine zc (hK60 _ _ ?_)
    refine wp_seq_k fun K61 hK61 => ?_
    refine zt rfl (fun h62 => ?_) (fun h62 => ?_)
    ·
     refine wp_skip ?_
     refine zc (hK61 _ _ ?_)
     refine wp_seq_k fun K63 hK63 => ?_
     refine wp_block ?_
     refine wp_seq_k fun K64 hK64 => ?_
     refine zb ?_
     obtain ⟨x68, hx69⟩ : ∃ x_, (allP fr (n * 64) (at_ % (n * 64)) z)[((j : Int)).toNat]? = some x_ := zM (by omega)
     refine za (o_indexF pcC_len Tryz.underlying266 ti269 e54_45 ho50.sl rfl e54_47 (by omega) hx69 fun b65 o66 hc67 => ?_)
     refine za (zC (cs := [(.int .i64 x68.sec), (.int .i64 x68.frm), (.int .i64 x68.upto)]) Tryz.underlying269 rfl ti269 rfl hH58 (zh 2 rfl) hc67 ?_)
     refine za (zU (cs := #[(.int .i64 0), (.int .i64 0), (.int .i64 0)]) ti269 rfl hH58 fun b70 w71 hH72 => ?_)
     refine zB (zw (vs := [(.int .i64 x68.sec), (.int .i64 x68.frm), (.int .i64 x68.upto)]) (c' := #[(.int .i64 x68.sec), (.int .i64 x68.frm), (.int .i64 x68.upto)]) ti269 rfl rfl rfl rfl (by intro u hu; simp only [List.mem_cons, List.not_mem_nil, or_false] at hu; rcases hu with rfl | rfl | rfl <;> first | rfl) (by simp) (by kernel_rfl) (hH72.front 0 rfl) fun w73 hH74 => ?_)
     refine zf ?_
     refine zc (hK64 _ _ ?_)
     refine wp_seq_k fun K75 hK75 => ?_
     refine Rest.region mixed (by kernel_rfl) ?_
     have hH76 : Has E { w73 with drawn := w73.drawn + 1 } [[Hp.one b70 (.cells #[(.int .i64 x68.sec), (.int .i64 x68.frm), (.int .i64 x68.upto)] 269 (0, 0))], sgc, [Hp.one pb (.cells #[(.bool dc.p.off), (.bool dc.p.armed), (.int .i64 dc.p.left), (.int .i64 dc.p.uses)] 145 (0, 0))], s49, [Hp.one ab (.cells #[(.pointer (some ⟨db, 0, none⟩)), (.int .i64 fr), (.int .i64 n)] 265 (0, 0))], R] := Has0.drew hH74 _
     refine Rest.phaseA (fun w_ => Has E w_ [[Hp.one b70 (.cells #[(.int .i64 x68.sec), (.int .i64 x68.frm), (.int .i64 x68.upto)] 269 (0, 0))], [Hp.one ab (.cells #[(.pointer (some ⟨db, 0, none⟩)), (.int .i64 fr), (.int .i64 n)] 265 (0, 0))]]) 0 6 6 rfl (by decide) (by kernel_rfl) ?_
     refine zr 0 rfl (by kernel_rfl) (fun w_ h_ => zd (v := (.pointer (some ⟨ab, 0, none⟩))) e54_0 ⟨rfl, rfl⟩) ?_
     refine zr 1 rfl (by kernel_rfl) (fun w_ h_ => zl rfl ⟨rfl, rfl⟩) ?_
     refine zr 2 rfl (by kernel_rfl) (fun w_ h_ => zg (k := 0) (fun _ => by kernel_rfl) rfl ⟨rfl, rfl⟩) ?_
     refine zr 3 rfl (by kernel_rfl) (fun w_ h_ => zj (v := (.pointer (some ⟨db, 0, none⟩))) Tryz.underlying25 rfl rfl h_ (zh 1 rfl) (CellsAt.one rfl) ⟨rfl, rfl⟩) ?_
     refine zr 4 rfl (by kernel_rfl) (fun w_ h_ => zg (k := 0) (fun _ => by kernel_rfl) rfl ⟨rfl, rfl⟩) ?_
     refine zr 5 rfl (by kernel_rfl) (fun w_ h_ => zj (v := (.int .i64 x68.sec)) Tryz.underlying3 rfl rfl h_ (zh 0 rfl) (CellsAt.one rfl) ⟨rfl, rfl⟩) ?_
     have hH77 : Has E { w73 with drawn := w73.drawn + 1 } [[Hp.one b70 (.cells #[(.int .i64 x68.sec), (.int .i64 x68.frm), (.int .i64 x68.upto)] 269 (0, 0))], [Hp.one ab (.cells #[(.pointer (some ⟨db, 0, none⟩)), (.int .i64 fr), (.int .i64 n)] 265 (0, 0))]] := ((hH76.front 4 rfl).front 1 rfl).first 2 rfl
     refine zQ (by kernel_rfl) hH77 ?_
     refine zP 6 rfl (by kernel_rfl) (zk (vs := #[(.pointer (some ⟨db, 0, none⟩)), (.int .i64 x68.sec)]) ca188 rfl (zI rfl rfl) (read_d (p := dc.p) (la := dc.la) (lo := dc.lo) ((hH76.front 2 rfl).front 2 rfl).all2 hdc x68.sec) ?_)
     rintro _ w80 ⟨rfl, hX78⟩
     refine ⟨_, rfl, ?_⟩
     have hH79 : Has E w80 [sgc, [Hp.one pb (.cells #[(.bool dc.p.off), (.bool dc.p.armed), (.int .i64 dc.p.left), (.int .i64 dc.p.uses)] 145 (0, 0))], [Hp.one b70 (.cells #[(.int .i64 x68.sec), (.int .i64 x68.frm), (.int .i64 x68.upto)] 269 (0, 0))], s49, [Hp.one ab (.cells #[(.pointer (some ⟨db, 0, none⟩)), (.int .i64 fr), (.int .i64 n)] 265 (0, 0))], R] := hX78.of_all2
     refine zP 7 rfl (by kernel_rfl) (zd (v := (.tuple #[(S (readS dc.p dc.la dc.lo x68.sec)), (.int .i64 (readE dc.p dc.la x68.sec))])) rfl ?_)
     refine Rest.phaseA (fun w_ => Has E w_ []) 8 11 3 rfl (by decide) (by kernel_rfl) ?_
     refine zr 8 rfl (by kernel_rfl) (fun w_ h_ => zp (v := (S (readS dc.p dc.la dc.lo x68.sec))) rfl rfl ⟨rfl, rfl⟩) ?_
     refine zr 9 rfl (by kernel_rfl) (fun w_ h_ => zp (v := (.int .i64 (readE dc.p dc.la x68.sec))) rfl rfl ⟨rfl, rfl⟩) ?_
     refine zr 10 rfl (by kernel_rfl) (fun w_ h_ => ze (v := (S (readS dc.p dc.la dc.lo x68.sec))) rfl ⟨rfl, rfl⟩) ?_
     have hH81 : Has E w80 [] := hH79.first 0 rfl
     refine zQ (by kernel_rfl) hH81 ?_
     refine zP 11 rfl (by kernel_rfl) (ze (v := (.int .i64 (readE dc.p dc.la x68.sec))) rfl ?_)
     refine Rest.done (by kernel_rfl) ?_
     refine zc (hK75 _ _ ?_)
     refine wp_seq_k fun K82 hK82 => ?_
     refine wp_seq_k fun K83 hK83 => ?_
     refine zb ?_
     refine za (zd (v := (.int .i64 (readE dc.p dc.la x68.sec))) rfl ?_)
     refine za (o_neq (a := readE dc.p dc.la x68.sec) (b := 0) rfl rfl ?_)
     refine zf ?_
     refine zc (hK83 _ _ ?_)
     refine zt rfl (fun h84 => ?_) (fun h84 => ?_)
     ·
      obtain ⟨hq1, hq2, hq3, hq4, hq5⟩ := hpk x68 (List.mem_of_getElem? hx69)
      have hrd_ := rd_on hon2 (la := dc.la) (lo := dc.lo) (n := x68.sec) ⟨by omega, by rw [hla2]; omega⟩
      exact absurd hrd_.2 h84
     ·
      obtain ⟨hq1, hq2, hq3, hq4, hq5⟩ := hpk x68 (List.mem_of_getElem? hx69)
      have hrd_ := rd_on hon2 (la := dc.la) (lo := dc.lo) (n := x68.sec) ⟨by omega, by rw [hla2]; omega⟩
      have hrl_ : (readS dc.p dc.la dc.lo x68.sec).length = 64 := by rw [hrd_.1]; exact nowAt_len (by rw [hla2]; exact h64) hlc2 (by rw [hla2]; omega)
      obtain ⟨hpd_, hpz_⟩ := plen_drop hpk (show (allP fr (n * 64) (at_ % (n * 64)) z)[j]? = some _ from hx69)
      refine wp_skip ?_
      refine zc (hK82 _ _ ?_)
      refine wp_seq_k fun K85 hK85 => ?_
      refine zb ?_
      refine za (zg (k := 2) (fun _ => by kernel_rfl) rfl ?_)
      refine za (zj (v := (.int .i64 x68.upto)) Tryz.underlying3 rfl rfl hH79 (zh 2 rfl) (CellsAt.one rfl) ?_)
      refine za (zg (k := 1) (fun _ => by kernel_rfl) rfl ?_)
      refine za (zj (v := (.int .i64 x68.frm)) Tryz.underlying3 rfl rfl hH79 (zh 2 rfl) (CellsAt.one rfl) ?_)
      refine za (o_sub (a := x68.upto) (b := x68.frm) rfl rfl (w64 (by omega) (by omega)) ?_)
      refine za (ze (v := (.int .i64 (x68.upto - x68.frm))) rfl ?_)
      refine zf ?_
      refine zc (hK85 _ _ ?_)
      refine wp_seq_k fun K86 hK86 => ?_
      refine wp_seq_k fun K87 hK87 => ?_
      refine Rest.region mixed (by kernel_rfl) ?_
      have hH88 : Has E { w80 with drawn := w80.drawn + 1 } [sgc, [Hp.one pb (.cells #[(.bool dc.p.off), (.bool dc.p.armed), (.int .i64 dc.p.left), (.int .i64 dc.p.uses)] 145 (0, 0))], [Hp.one b70 (.cells #[(.int .i64 x68.sec), (.int .i64 x68.frm), (.int .i64 x68.upto)] 269 (0, 0))], s49, [Hp.one ab (.cells #[(.pointer (some ⟨db, 0, none⟩)), (.int .i64 fr), (.int .i64 n)] 265 (0, 0))], R] := Has0.drew hH79 _
      refine Rest.phaseA (fun w_ => Has E w_ [[Hp.one b70 (.cells #[(.int .i64 x68.sec), (.int .i64 x68.frm), (.int .i64 x68.upto)] 269 (0, 0))], [Hp.one ab (.cells #[(.pointer (some ⟨db, 0, none⟩)), (.int .i64 fr), (.int .i64 n)] 265 (0, 0))]]) 0 18 18 rfl (by decide) (by kernel_rfl) ?_
      refine zr 0 rfl (by kernel_rfl) (fun w_ h_ => zd (v := (.pointer (some ⟨ab, 0, none⟩))) e54_0 ⟨rfl, rfl⟩) ?_
      refine zr 1 rfl (by kernel_rfl) (fun w_ h_ => zl rfl ⟨rfl, rfl⟩) ?_
      refine zr 2 rfl (by kernel_rfl) (fun w_ h_ => zg (k := 0) (fun _ => by kernel_rfl) rfl ⟨rfl, rfl⟩) ?_
      refine zr 3 rfl (by kernel_rfl) (fun w_ h_ => zj (v := (.pointer (some ⟨db, 0, none⟩))) Tryz.underlying25 rfl rfl h_ (zh 1 rfl) (CellsAt.one rfl) ⟨rfl, rfl⟩) ?_
      refine zr 4 rfl (by kernel_rfl) (fun w_ h_ => zg (k := 0) (fun _ => by kernel_rfl) rfl ⟨rfl, rfl⟩) ?_
      refine zr 5 rfl (by kernel_rfl) (fun w_ h_ => zj (v := (.int .i64 x68.sec)) Tryz.underlying3 rfl rfl h_ (zh 0 rfl) (CellsAt.one rfl) ⟨rfl, rfl⟩) ?_
      refine zr 6 rfl (by kernel_rfl) (fun w_ h_ => zd (v := (S (readS dc.p dc.la dc.lo x68.sec))) rfl ⟨rfl, rfl⟩) ?_
      refine zr 7 rfl (by kernel_rfl) (fun w_ h_ => zg (k := 1) (fun _ => by kernel_rfl) rfl ⟨rfl, rfl⟩) ?_
      refine zr 8 rfl (by kernel_rfl) (fun w_ h_ => zj (v := (.int .i64 x68.frm)) Tryz.underlying3 rfl rfl h_ (zh 0 rfl) (CellsAt.one rfl) ⟨rfl, rfl⟩) ?_
      refine zr 9 rfl (by kernel_rfl) (fun w_ h_ => o_ssl_h Tryz.underlying9 rfl rfl (by omega) (by omega) ⟨rfl, rfl⟩) ?_
      refine zr 10 rfl (by kernel_rfl) (fun w_ h_ => zd (v := (S rest)) e54_10 ⟨rfl, rfl⟩) ?_
      refine zr 11 rfl (by kernel_rfl) (fun w_ h_ => zd (v := (.int .i64 (x68.upto - x68.frm))) rfl ⟨rfl, rfl⟩) ?_
      refine zr 12 rfl (by kernel_rfl) (fun w_ h_ => o_ssl_h Tryz.underlying9 rfl rfl (by omega) (by omega) ⟨rfl, rfl⟩) ?_
      refine zr 13 rfl (by kernel_rfl) (fun w_ h_ => zd (v := (S (readS dc.p dc.la dc.lo x68.sec))) rfl ⟨rfl, rfl⟩) ?_
      refine zr 14 rfl (by kernel_rfl) (fun w_ h_ => zg (k := 2) (fun _ => by kernel_rfl) rfl ⟨rfl, rfl⟩) ?_
      refine zr 15 rfl (by kernel_rfl) (fun w_ h_ => zj (v := (.int .i64 x68.upto)) Tryz.underlying3 rfl rfl h_ (zh 0 rfl) (CellsAt.one rfl) ⟨rfl, rfl⟩) ?_
      refine zr 16 rfl (by kernel_rfl) (fun w_ h_ => o_ssl_l Tryz.underlying9 rfl rfl (by omega) (by omega) ⟨rfl, rfl⟩) ?_
      have hH89 : Has E { w80 with drawn := w80.drawn + 1 } [[Hp.one b70 (.cells #[(.int .i64 x68.sec), (.int .i64 x68.frm), (.int .i64 x68.upto)] 269 (0, 0))], [Hp.one ab (.cells #[(.pointer (some ⟨db, 0, none⟩)), (.int .i64 fr), (.int .i64 n)] 265 (0, 0))]] := ((hH88.front 4 rfl).front 3 rfl).first 2 rfl
      refine a_w 17 rfl (by kernel_rfl) hH89 (zu (ps := #[(0, (S ((readS dc.p dc.la dc.lo x68.sec).take (x68.frm).toNat))), (1, (S (rest.take (x68.upto - x68.frm).toNat))), (2, (S ((readS dc.p dc.la dc.lo x68.sec).drop (x68.upto).toNat)))]) (cells := #[(S ((readS dc.p dc.la dc.lo x68.sec).take (x68.frm).toNat)), (S (rest.take (x68.upto - x68.frm).toNat)), (S ((readS dc.p dc.la dc.lo x68.sec).drop (x68.upto).toNat))]) Tryz.underlying46 ti9 (by decide) (parts3 rfl rfl rfl) (by kernel_rfl) hH88 fun b90 w91 hH92 => ?_)
      have hH93 : Has E w91 [[Hp.one b70 (.cells #[(.int .i64 x68.sec), (.int .i64 x68.frm), (.int .i64 x68.upto)] 269 (0, 0))], [Hp.one ab (.cells #[(.pointer (some ⟨db, 0, none⟩)), (.int .i64 fr), (.int .i64 n)] 265 (0, 0))]] := ((hH92.front 5 rfl).front 4 rfl).first 2 rfl
      refine zQ (by kernel_rfl) hH93 ?_
      have hfl_ : ([(readS dc.p dc.la dc.lo x68.sec).take (x68.frm).toNat, rest.take (x68.upto - x68.frm).toNat, (readS dc.p dc.la dc.lo x68.sec).drop (x68.upto).toNat] : List Bs).flatten = (putA1 dc.la dc.lo x68 rest) := by rw [hrd_.1]; simp [putA1]
      have htl_ : (putA1 dc.la dc.lo x68 rest).length = 64 := put1_len (fr := fr) (n := n) ⟨hq1, hq2, hq3, hq4, hq5⟩ (by rw [← hrd_.1]; exact hrl_) (by omega)
      refine zP 18 rfl (by kernel_rfl) (zk (vs := #[(.pointer (some ⟨db, 0, none⟩)), (.int .i64 x68.sec), (.slice (some ⟨b90, 0, none⟩) 3 3)]) ca122 rfl (args3 rfl rfl rfl) (dv_wr (d := dc) ((hH92.front 2 rfl).front 2 rfl).all2 hdc (hfc.ok (by omega)) (by rw [hla2]; exact h4) x68.sec (l := [(readS dc.p dc.la dc.lo x68.sec).take (x68.frm).toNat, rest.take (x68.upto - x68.frm).toNat, (readS dc.p dc.la dc.lo x68.sec).drop (x68.upto).toNat]) ((zW (f := sV) (l := [(readS dc.p dc.la dc.lo x68.sec).take (x68.frm).toNat, rest.take (x68.upto - x68.frm).toNat, (readS dc.p dc.la dc.lo x68.sec).drop (x68.upto).toNat]) rfl rfl (by simp)).mono (zh 0 rfl)) (s := (putA1 dc.la dc.lo x68 rest)) hfl_ (by simp) (by omega)) ?_)
      rintro _ w98 ⟨sg94, rfl, hd95, hX96⟩
      refine ⟨_, rfl, ?_⟩
      have hH97 : Has E w98 [sg94, [Hp.one pb (.cells #[(.bool (dc.wr x68.sec (putA1 dc.la dc.lo x68 rest)).p.off), (.bool (dc.wr x68.sec (putA1 dc.la dc.lo x68 rest)).p.armed), (.int .i64 (dc.wr x68.sec (putA1 dc.la dc.lo x68 rest)).p.left), (.int .i64 (dc.wr x68.sec (putA1 dc.la dc.lo x68 rest)).p.uses)] 145 (0, 0))], [Hp.one b90 (.cells #[(S ((readS dc.p dc.la dc.lo x68.sec).take (x68.frm).toNat)), (S (rest.take (x68.upto - x68.frm).toNat)), (S ((readS dc.p dc.la dc.lo x68.sec).drop (x68.upto).toNat))] 9 (0, 0))], [Hp.one b70 (.cells #[(.int .i64 x68.sec), (.int .i64 x68.frm), (.int .i64 x68.upto)] 269 (0, 0))], s49, [Hp.one ab (.cells #[(.pointer (some ⟨db, 0, none⟩)), (.int .i64 fr), (.int .i64 n)] 265 (0, 0))], R] := hX96.of_all2
      refine zP 19 rfl (by kernel_rfl) (ze (v := (.int .i64 (dc.wrE x68.sec (putA1 dc.la dc.lo x68 rest)))) rfl ?_)
      refine Rest.done (by kernel_rfl) ?_
      refine zc (hK87 _ _ ?_)
      refine wp_seq_k fun K99 hK99 => ?_
      refine zb ?_
      refine za (zd (v := (.int .i64 (dc.wrE x68.sec (putA1 dc.la dc.lo x68 rest)))) rfl ?_)
      refine za (o_neq (a := dc.wrE x68.sec (putA1 dc.la dc.lo x68 rest)) (b := 0) rfl rfl ?_)
      refine zf ?_
      refine zc (hK99 _ _ ?_)
      refine zt rfl (fun h100 => ?_) (fun h100 => ?_)
      ·
       refine wp_seq_k fun K101 hK101 => ?_
       refine zb ?_
       refine za (zd (v := (.int .i64 (dc.wrE x68.sec (putA1 dc.la dc.lo x68 rest)))) rfl ?_)
       refine za (ze (v := (.int .i64 (dc.wrE x68.sec (putA1 dc.la dc.lo x68 rest)))) rfl ?_)
       refine zf ?_
       refine zc (hK101 _ _ ?_)
       refine wp_ret ?_
       refine zv (b_ret (zv (zv (b_ret (zv (zq Tryz.results108  (v := (.int .i64 (dc.wrE x68.sec (putA1 dc.la dc.lo x68 rest)))) rfl ?_))))))
       have hR_ := aset_stop (show (allP fr (n * 64) (at_ % (n * 64)) z)[j]? = some _ from hx69) hst h100
       have hH102 : Has E w98 [sg94, [Hp.one pb (.cells #[(.bool (dc.wr x68.sec (putA1 dc.la dc.lo x68 rest)).p.off), (.bool (dc.wr x68.sec (putA1 dc.la dc.lo x68 rest)).p.armed), (.int .i64 (dc.wr x68.sec (putA1 dc.la dc.lo x68 rest)).p.left), (.int .i64 (dc.wr x68.sec (putA1 dc.la dc.lo x68 rest)).p.uses)] 145 (0, 0))], [Hp.one ab (.cells #[(.pointer (some ⟨db, 0, none⟩)), (.int .i64 fr), (.int .i64 n)] 265 (0, 0))], R] := ((((hH97.front 6 rfl).front 6 rfl).front 3 rfl).front 3 rfl).first 4 rfl
       have hE_ : (setA d fr n at_ data.flatten) = (dc.wrE x68.sec (putA1 dc.la dc.lo x68 rest), (dc.wr x68.sec (putA1 dc.la dc.lo x68 rest))) := (if_pos (show mayA n at_ (data.flatten.length : Int) by rw [← hzz]; exact Classical.not_not.1 h32)).trans ((if_neg (by rw [hon_]; decide)).trans (by show asetD (allP fr (n * 64) (at_ % (n * 64)) (data.flatten.length : Int)) d data.flatten = _; rw [← hzz]; exact hR_))
       exact ⟨_, by rw [hE_], by rw [hE_]; exact hd95, by rw [hE_]; exact hH102⟩
      ·
       have hon3_ := wr_zero_on (Classical.not_not.1 h100)
       refine wp_skip ?_
       refine zc (hK86 _ _ ?_)
       refine zb ?_
       refine za (zd (v := (S rest)) e54_10 ?_)
       refine za (zd (v := (.int .i64 (x68.upto - x68.frm))) rfl ?_)
       refine za (o_ssl_l Tryz.underlying9 rfl rfl (by omega) (by omega) ?_)
       refine za (ze (v := (S (rest.drop (x68.upto - x68.frm).toNat))) rfl ?_)
       refine zf ?_
       refine zG ?_
       refine zc (hK63 _ _ ?_)
       refine zb ?_
       refine za (zH (a := (j : Int)) (b := 1) e54_47 rfl (w64 (by omega) (by omega)) ?_)
       refine za (zd (v := (.int .i64 ((j : Int) + 1))) rfl ?_)
       refine zf ?_
       have hH103 : Has E w98 [sg94, [Hp.one pb (.cells #[(.bool (dc.wr x68.sec (putA1 dc.la dc.lo x68 rest)).p.off), (.bool (dc.wr x68.sec (putA1 dc.la dc.lo x68 rest)).p.armed), (.int .i64 (dc.wr x68.sec (putA1 dc.la dc.lo x68 rest)).p.left), (.int .i64 (dc.wr x68.sec (putA1 dc.la dc.lo x68 rest)).p.uses)] 145 (0, 0))], s49, [Hp.one ab (.cells #[(.pointer (some ⟨db, 0, none⟩)), (.int .i64 fr), (.int .i64 n)] 265 (0, 0))], R] := (((((hH97.front 6 rfl).front 6 rfl).front 6 rfl).front 4 rfl).front 4 rfl).first 5 rfl
       refine zc ⟨(allP fr (n * 64) (at_ % (n * 64)) z).length - (j + 1), _, rfl, ?_, ?_⟩
       · omega
       · exact ⟨(j + 1), (rest.drop (x68.upto - x68.frm).toNat), (dc.wr x68.sec (putA1 dc.la dc.lo x68 rest)), sg94, rfl, hH103, (by omega), (hd95), (hla2), (hlc2.write _ _ _), (hfc.use), (hon3_), (by rw [List.length_drop]; omega), (aset_go (show (allP fr (n * 64) (at_ % (n * 64)) z)[j]? = some _ from hx69) hst (Classical.not_not.1 h100)), e54_0, e54_1, e54_2, e54_7, rfl, e54_17, e54_18, e54_19, e54_20, e54_33, e54_39, e54_45, e54_46, rfl⟩
    ·
     refine wp_exit ?_
     refine zx (zx (x_in (?_)))
     refine zc (hK46 _ _ ?_)
     refine wp_seq_k fun K104 hK104 => ?_
     refine zb ?_
     refine za (ze (v := (.int .i64 0)) rfl ?_)
     refine zf ?_
     refine zc (hK104 _ _ ?_)
     refine wp_ret ?_
     refine zq Tryz.results108  (v := (.int .i64 0)) rfl ?_
     have hR_ := aset_end hst (by omega)
     have hH105 : Has E w57 [sgc, [Hp.one pb (.cells #[(.bool dc.p.off), (.bool dc.p.armed), (.int .i64 dc.p.left), (.int .i64 dc.p.uses)] 145 (0, 0))], [Hp.one ab (.cells #[(.pointer (some ⟨db, 0, none⟩)), (.int .i64 fr), (.int .i64 n)] 265 (0, 0))], R] := ((((hH58.front 4 rfl).front 4 rfl).front 3 rfl).front 3 rfl).first 4 rfl
     have hE_ : (setA d fr n at_ data.flatten) = (0, dc) := (if_pos (show mayA n at_ (data.flatten.length : Int) by rw [← hzz]; exact Classical.not_not.1 h32)).trans ((if_neg (by rw [hon_]; decide)).trans (by show asetD (allP fr (n * 64) (at_ % (n * 64)) (data.flatten.length : Int)) d data.flatten = _; rw [← hzz]; exact hR_))
     exact ⟨_, by rw [hE_], by rw [hE_]; exact hdc, by rw [hE_]; exact hH105⟩
end Go.Q
namespace Go.Q
open Go.Proofs
set_option linter.unusedVariables false
set_option maxRecDepth 100000
attribute [local irreducible] wpList OK Code.wp
set_option maxHeartbeats 4000000 in
theorem within_c {E w : World} {R : List Hp} (hH : Has E w [R]) (n m : Int) :
  Calls Tryz.prog 277 #[(.int .i64 n), (.int .i64 m)] w fun e w' => e = .returned (.bool (decide (0 ≤ n ∧ n ≤ m))) ∧ Has E w' [R] := by
 refine zs (args := [(.int .i64 n), (.int .i64 m)]) Tryz.func277 rfl Tryz.ntmps277 (by simp) ?_
 refine wp_seq_k fun K1 hK1 => ?_
 refine zb ?_
 refine za (ze (v := (.bool false)) rfl ?_)
 refine zf ?_
 refine zc (hK1 _ _ ?_)
 refine wp_seq_k fun K2 hK2 => ?_
 refine zb ?_
 refine za (zd (v := (.int .i64 n)) rfl ?_)
 refine za (o_geq (a := n) (b := 0) rfl rfl ?_)
 refine za (zd (v := (.bool (decide (0 ≤ n)))) rfl ?_)
 by_cases h3 : 0 ≤ n
 ·
  refine zn 7 rfl (cT h3) (zd (v := (.int .i64 n)) rfl ?_)
  refine zn 7 rfl (cT h3) (zd (v := (.int .i64 m)) rfl ?_)
  refine zn 7 rfl (cT h3) (o_leq (a := n) (b := m) rfl rfl ?_)
  refine za (zo (u := (.bool (decide (n ≤ m)))) ((rfl : _ = _).trans (cT h3)) rfl ?_)
  refine za (ze (v := (.bool (decide (n ≤ m)))) rfl ?_)
  refine zf ?_
  refine zc (hK2 _ _ ?_)
  refine wp_ret ?_
  refine zq Tryz.results277  (v := (.bool (decide (n ≤ m)))) rfl ?_
  exact ⟨congrArg (fun b => Ending.returned (.bool b)) (decide_eq_decide.2 (by omega)), hH⟩
 ·
  refine zi (b' := false) 7 rfl (cF h3) rfl ?_
  refine zi (b' := false) 7 rfl (cF h3) rfl ?_
  refine zi (b' := false) 7 rfl (cF h3) rfl ?_
  refine za (zm (u := (.bool false)) ((rfl : _ = _).trans (cF h3)) rfl ?_)
  refine za (ze (v := (.bool false)) rfl ?_)
  refine zf ?_
  refine zc (hK2 _ _ ?_)
  refine wp_ret ?_
  refine zq Tryz.results277  (v := (.bool false)) rfl ?_
  exact ⟨congrArg (fun b => Ending.returned (.bool b)) ((decide_eq_false (by omega)).symm), hH⟩
set_option maxHeartbeats 4000000 in
theorem right_c {E w : World} {R : List Hp} (hH : Has E w [R]) (f : Fr) (hfl : f.data.length ≤ 9223372036854775807) :
  Calls Tryz.prog 197 #[(.agg #[(.int .i64 f.ep), (.int .i64 f.pl), (.int .i64 f.gsn), (S f.data)])] w fun e w' => e = .returned (.bool (rightS f)) ∧ Has E w' [R] := by
 refine zs (args := [(.agg #[(.int .i64 f.ep), (.int .i64 f.pl), (.int .i64 f.gsn), (S f.data)])]) Tryz.func197 rfl Tryz.ntmps197 (by simp) ?_
 refine wp_seq_k fun K1 hK1 => ?_
 refine zb ?_
 refine za (o_box (cs := #[(.int .i64 f.ep), (.int .i64 f.pl), (.int .i64 f.gsn), (S f.data)]) rfl rfl hH fun b2 w3 hH4 => ?_)
 refine za (ze (v := (.bool false)) rfl ?_)
 refine zf ?_
 refine zc (hK1 _ _ ?_)
 refine wp_seq_k fun K5 hK5 => ?_
 refine zb ?_
 refine za (zg (k := 0) (fun _ => by kernel_rfl) rfl ?_)
 refine za (zj (v := (.int .i64 f.ep)) Tryz.underlying3 rfl rfl hH4 (zh 0 rfl) (CellsAt.one rfl) ?_)
 refine za (zk (vs := #[(.int .i64 f.ep), (.int .i64 2147483647)]) ca277 rfl (zI rfl rfl) (within_c hH4.all f.ep 2147483647) ?_)
 rintro _ w8 ⟨rfl, hX6⟩
 refine ⟨_, rfl, ?_⟩
 have hH7 := hX6.of_all
 refine za (zd (v := (.bool (decide (0 ≤ f.ep ∧ f.ep ≤ 2147483647)))) rfl ?_)
 by_cases h9 : 0 ≤ f.ep ∧ f.ep ≤ 2147483647
 ·
  refine zn 6 rfl (cT h9) (zg (k := 1) (fun _ => by kernel_rfl) rfl ?_)
  refine zn 6 rfl (cT h9) (zj (v := (.int .i64 f.pl)) Tryz.underlying3 rfl rfl hH7 (zh 0 rfl) (CellsAt.one rfl) ?_)
  refine zn 6 rfl (cT h9) (zk (vs := #[(.int .i64 f.pl), (.int .i64 4611686018427387903)]) ca277 rfl (zI rfl rfl) (within_c hH7.all f.pl 4611686018427387903) ?_)
  rintro _ w12 ⟨rfl, hX10⟩
  refine ⟨_, rfl, ?_⟩
  have hH11 := hX10.of_all
  refine za (zo (u := (.bool (decide (0 ≤ f.pl ∧ f.pl ≤ 4611686018427387903)))) ((rfl : _ = _).trans (cT h9)) rfl ?_)
  refine za (zd (v := (.bool (decide (0 ≤ f.pl ∧ f.pl ≤ 4611686018427387903)))) rfl ?_)
  by_cases h13 : 0 ≤ f.pl ∧ f.pl ≤ 4611686018427387903
  ·
   refine zn 11 rfl (cT h13) (zg (k := 2) (fun _ => by kernel_rfl) rfl ?_)
   refine zn 11 rfl (cT h13) (zj (v := (.int .i64 f.gsn)) Tryz.underlying3 rfl rfl hH11 (zh 0 rfl) (CellsAt.one rfl) ?_)
   refine zn 11 rfl (cT h13) (zk (vs := #[(.int .i64 f.gsn), (.int .i64 4611686018427387903)]) ca277 rfl (zI rfl rfl) (within_c hH11.all f.gsn 4611686018427387903) ?_)
   rintro _ w16 ⟨rfl, hX14⟩
   refine ⟨_, rfl, ?_⟩
   have hH15 := hX14.of_all
   refine za (zo (u := (.bool (decide (0 ≤ f.gsn ∧ f.gsn ≤ 4611686018427387903)))) ((rfl : _ = _).trans (cT h13)) rfl ?_)
   refine za (zd (v := (.bool (decide (0 ≤ f.gsn ∧ f.gsn ≤ 4611686018427387903)))) rfl ?_)
   by_cases h17 : 0 ≤ f.gsn ∧ f.gsn ≤ 4611686018427387903
   ·
    refine zn 16 rfl (cT h17) (zg (k := 3) (fun _ => by kernel_rfl) rfl ?_)
    refine zn 16 rfl (cT h17) (zj (v := (S f.data)) Tryz.underlying9 rfl rfl hH15 (zh 0 rfl) (CellsAt.one rfl) ?_)
    refine zn 16 rfl (cT h17) (yb Tryz.underlying9 rfl ?_)
    refine zn 16 rfl (cT h17) (o_leq (a := (f.data.length : Int)) (b := 200) rfl rfl ?_)
    refine za (zo (u := (.bool (decide ((f.data.length : Int) ≤ 200)))) ((rfl : _ = _).trans (cT h17)) rfl ?_)
    refine za (ze (v := (.bool (decide ((f.data.length : Int) ≤ 200)))) rfl ?_)
    refine zf ?_
    refine zc (hK5 _ _ ?_)
    refine wp_ret ?_
    refine zq Tryz.results197  (v := (.bool (decide ((f.data.length : Int) ≤ 200)))) rfl ?_
    have hH18 : Has E w16 [R] := (hH15.front 1 rfl).first 1 rfl
    exact ⟨congrArg (fun b => Ending.returned (.bool b)) (decide_eq_decide.2 (by omega)), hH18⟩
   ·
    refine zi (b' := false) 16 rfl (cF h17) rfl ?_
    refine zi (b' := false) 16 rfl (cF h17) rfl ?_
    refine zi (b' := false) 16 rfl (cF h17) rfl ?_
    refine zi (b' := false) 16 rfl (cF h17) rfl ?_
    refine za (zm (u := (.bool false)) ((rfl : _ = _).trans (cF h17)) rfl ?_)
    refine za (ze (v := (.bool false)) rfl ?_)
    refine zf ?_
    refine zc (hK5 _ _ ?_)
    refine wp_ret ?_
    refine zq Tryz.results197  (v := (.bool false)) rfl ?_
    have hH19 : Has E w16 [R] := (hH15.front 1 rfl).first 1 rfl
    exact ⟨congrArg (fun b => Ending.returned (.bool b)) ((decide_eq_false (by omega)).symm), hH19⟩
  ·
   refine zi (b' := false) 11 rfl (cF h13) rfl ?_
   refine zi (b' := false) 11 rfl (cF h13) rfl ?_
   refine zi (b' := false) 11 rfl (cF h13) rfl ?_
   refine za (zm (u := (.bool false)) ((rfl : _ = _).trans (cF h13)) rfl ?_)
   refine za (zd (v := (.bool false)) rfl ?_)
   refine zi (b' := false) 16 rfl rfl rfl ?_
   refine zi (b' := false) 16 rfl rfl rfl ?_
   refine zi (b' := false) 16 rfl rfl rfl ?_
   refine zi (b' := false) 16 rfl rfl rfl ?_
   refine za (zm (u := (.bool false)) rfl rfl ?_)
   refine za (ze (v := (.bool false)) rfl ?_)
   refine zf ?_
   refine zc (hK5 _ _ ?_)
   refine wp_ret ?_
   refine zq Tryz.results197  (v := (.bool false)) rfl ?_
   have hH20 : Has E w12 [R] := (hH11.front 1 rfl).first 1 rfl
   exact ⟨congrArg (fun b => Ending.returned (.bool b)) ((decide_eq_false (by omega)).symm), hH20⟩
 ·
  refine zi (b' := false) 6 rfl (cF h9) rfl ?_
  refine zi (b' := false) 6 rfl (cF h9) rfl ?_
  refine zi (b' := false) 6 rfl (cF h9) rfl ?_
  refine za (zm (u := (.bool false)) ((rfl : _ = _).trans (cF h9)) rfl ?_)
  refine za (zd (v := (.bool false)) rfl ?_)
  refine zi (b' := false) 11 rfl rfl rfl ?_
  refine zi (b' := false) 11 rfl rfl rfl ?_
  refine zi (b' := false) 11 rfl rfl rfl ?_
  refine za (zm (u := (.bool false)) rfl rfl ?_)
  refine za (zd (v := (.bool false)) rfl ?_)
  refine zi (b' := false) 16 rfl rfl rfl ?_
  refine zi (b' := false) 16 rfl rfl rfl ?_
  refine zi (b' := false) 16 rfl rfl rfl ?_
  refine zi (b' := false) 16 rfl rfl rfl ?_
  refine za (zm (u := (.bool false)) rfl rfl ?_)
  refine za (ze (v := (.bool false)) rfl ?_)
  refine zf ?_
  refine zc (hK5 _ _ ?_)
  refine wp_ret ?_
  refine zq Tryz.results197  (v := (.bool false)) rfl ?_
  have hH21 : Has E w8 [R] := (hH7.front 1 rfl).first 1 rfl
  exact ⟨congrArg (fun b => Ending.returned (.bool b)) ((decide_eq_false (by omega)).symm), hH21⟩
end Go.Q
namespace Go.Q
open Go.Proofs
set_option linter.unusedVariables false
set_option maxRecDepth 100000
attribute [local irreducible] wpList OK Code.wp
set_option maxHeartbeats 4000000 in
theorem make_c {E w : World} {R : List Hp} (hH : Has E w [R]) (hg : CellsAt R 0 0 nibV) (f : Fr) (hfl : f.data.length ≤ 9223372036854775807) {v : Value} {l : List (List UInt8)} (hv : Sl R 1 v l.length (l.map sV)) (hn : l.length ≤ 1000000) (hl : l.flatten.length ≤ 1000000000) (hd : f.data.length + l.flatten.length ≤ 9223372036854775807) :
  Calls Tryz.prog 107 #[(.agg #[(.int .i64 f.ep), (.int .i64 f.pl), (.int .i64 f.gsn), (S f.data)]), v] w fun e w' => e = .returned (S (makeS (Fr.mk f.ep f.pl f.gsn (f.data ++ l.flatten)))) ∧ Has E w' [R] := by
 refine zs (args := [(.agg #[(.int .i64 f.ep), (.int .i64 f.pl), (.int .i64 f.gsn), (S f.data)]), v]) Tryz.func107 rfl Tryz.ntmps107 (by simp) ?_
 refine wp_seq_k fun K1 hK1 => ?_
 refine zb ?_
 refine za (o_box (cs := #[(.int .i64 f.ep), (.int .i64 f.pl), (.int .i64 f.gsn), (S f.data)]) rfl rfl hH fun b2 w3 hH4 => ?_)
 refine za (ze (v := (S ([] : List UInt8))) rfl ?_)
 refine zf ?_
 refine zc (hK1 _ _ ?_)
 refine wp_seq_k fun K5 hK5 => ?_
 refine Rest.region mixed (by kernel_rfl) ?_
 have hH6 : Has E { w3 with drawn := w3.drawn + 1 } [[Hp.one b2 (.cells #[(.int .i64 f.ep), (.int .i64 f.pl), (.int .i64 f.gsn), (S f.data)] 176 (0, 0))], R] := Has0.drew hH4 _
 refine Rest.phaseA (fun w_ => Has E w_ [[Hp.one b2 (.cells #[(.int .i64 f.ep), (.int .i64 f.pl), (.int .i64 f.gsn), (S f.data)] 176 (0, 0))]]) 0 4 4 rfl (by decide) (by kernel_rfl) ?_
 refine zr 0 rfl (by kernel_rfl) (fun w_ h_ => zg (k := 3) (fun _ => by kernel_rfl) rfl ⟨rfl, rfl⟩) ?_
 refine zr 1 rfl (by kernel_rfl) (fun w_ h_ => zj (v := (S f.data)) Tryz.underlying9 rfl rfl h_ (zh 0 rfl) (CellsAt.one rfl) ⟨rfl, rfl⟩) ?_
 refine zr 2 rfl (by kernel_rfl) (fun w_ h_ => zd (v := v) rfl ⟨rfl, rfl⟩) ?_
 have hH7 : Has E { w3 with drawn := w3.drawn + 1 } [[Hp.one b2 (.cells #[(.int .i64 f.ep), (.int .i64 f.pl), (.int .i64 f.gsn), (S f.data)] 176 (0, 0))]] := hH6.first 1 rfl
 refine a_w 3 rfl (by kernel_rfl) hH7 (zk (vs := #[v, (S ([] : List UInt8))]) ca118 rfl (zI rfl rfl) (join_c hH6.all (hv.mono (zh 1 rfl)) hn hl) ?_)
 rintro _ w10 ⟨rfl, hX8⟩
 refine ⟨_, rfl, ?_⟩
 have hH9 := hX8.of_all
 have hH11 : Has E w10 [[Hp.one b2 (.cells #[(.int .i64 f.ep), (.int .i64 f.pl), (.int .i64 f.gsn), (S f.data)] 176 (0, 0))]] := hH9.first 1 rfl
 refine zQ (by kernel_rfl) hH11 ?_
 refine zP 4 rfl (by kernel_rfl) (o_sadd rfl rfl (by omega) ?_)
 refine zP 5 rfl (by kernel_rfl) (zg (k := 3) (fun _ => by kernel_rfl) rfl ?_)
 refine r_eff 6 rfl (by kernel_rfl) (zJ (c' := #[(.int .i64 f.ep), (.int .i64 f.pl), (.int .i64 f.gsn), (S (f.data ++ l.flatten))]) ti9 rfl rfl rfl (by simp) rfl (hH9.front 0 rfl) fun w12 hH13 => ?_)
 refine Rest.done (by kernel_rfl) ?_
 refine zc (hK5 _ _ ?_)
 refine wp_seq_k fun K14 hK14 => ?_
 refine wp_seq_k fun K15 hK15 => ?_
 refine zb ?_
 refine za (zC (cs := [(.int .i64 f.ep), (.int .i64 f.pl), (.int .i64 f.gsn), (S (f.data ++ l.flatten))]) Tryz.underlying176 rfl ti176 rfl hH13 (zh 0 rfl) (CellsAt.one rfl) ?_)
 refine za (zk (vs := #[(.agg #[(.int .i64 f.ep), (.int .i64 f.pl), (.int .i64 f.gsn), (S (f.data ++ l.flatten))])]) ca197 rfl (zF rfl) (right_c hH13.all (Fr.mk f.ep f.pl f.gsn (f.data ++ l.flatten)) (by simp only [List.length_append]; omega)) ?_)
 rintro _ w18 ⟨rfl, hX16⟩
 refine ⟨_, rfl, ?_⟩
 have hH17 := hX16.of_all
 refine za (o_not rfl ?_)
 refine zf ?_
 refine zc (hK15 _ _ ?_)
 refine zX rfl (fun h19 => ?_) (fun h19 => ?_)
 ·
  have h19_n : (rightS (Fr.mk f.ep f.pl f.gsn (f.data ++ l.flatten))) = false := by first | simpa using h19 | exact Bool.of_not_eq_true (fun g_ => by rw [g_] at h19; cases h19)
  refine wp_seq_k fun K20 hK20 => ?_
  refine zb ?_
  refine za (ze (v := (S ([] : List UInt8))) rfl ?_)
  refine zf ?_
  refine zc (hK20 _ _ ?_)
  refine wp_ret ?_
  refine zv (zq Tryz.results107  (v := (S ([] : List UInt8))) rfl ?_)
  have hH21 : Has E w18 [R] := (hH17.front 1 rfl).first 1 rfl
  exact ⟨by rw [makeS_no (by simpa using ‹(!_) = true›)], hH21⟩
 ·
  have h19_n : (rightS (Fr.mk f.ep f.pl f.gsn (f.data ++ l.flatten))) = true := by first | simpa using h19 | exact Bool.of_not_eq_false (fun g_ => by rw [g_] at h19; cases h19)
  have hr : rightS (Fr.mk f.ep f.pl f.gsn (f.data ++ l.flatten)) = true := by simpa using h19
  have hrl := (rightS_of hr).2.2.2.2.2.2
  simp only [List.length_append] at hrl
  refine wp_skip ?_
  refine zc (hK14 _ _ ?_)
  refine wp_seq_k fun K22 hK22 => ?_
  refine c_flow [[Hp.one b2 (.cells #[(.int .i64 f.ep), (.int .i64 f.pl), (.int .i64 f.gsn), (S (f.data ++ l.flatten))] 176 (0, 0))], R] (fun i_ => match i_ with | _ => []) (fun i_ v_ h_ => match i_ with | 0 => v_ = (.pointer (some ⟨b2, 3, none⟩)) ∧ h_ = [] | 1 => v_ = (S (f.data ++ l.flatten)) ∧ h_ = [] | 2 => v_ = (.int .i64 ((f.data ++ l.flatten).length : Int)) ∧ h_ = [] | 3 => ∃ (b23 : Nat), v_ = (.slice (some ⟨b23, 0, none⟩) 1 1) ∧ h_ = [Hp.one b23 (.cells #[(.int .i64 ((f.data ++ l.flatten).length : Int))] 3 (0, 0))] | 4 => v_ = (S (putS 1 [((f.data ++ l.flatten).length : Int)])) ∧ h_ = [] | 5 => v_ = (.pointer (some ⟨b2, 0, none⟩)) ∧ h_ = [] | 6 => v_ = (.int .i64 f.ep) ∧ h_ = [] | 7 => ∃ (b29 : Nat), v_ = (.slice (some ⟨b29, 0, none⟩) 1 1) ∧ h_ = [Hp.one b29 (.cells #[(.int .i64 f.ep)] 3 (0, 0))] | 8 => v_ = (S (putS 4 [f.ep])) ∧ h_ = [] | 9 => v_ = (.pointer (some ⟨b2, 1, none⟩)) ∧ h_ = [] | 10 => v_ = (.int .i64 f.pl) ∧ h_ = [] | 11 => v_ = (.pointer (some ⟨b2, 2, none⟩)) ∧ h_ = [] | 12 => v_ = (.int .i64 f.gsn) ∧ h_ = [] | 13 => ∃ (b35 : Nat), v_ = (.slice (some ⟨b35, 0, none⟩) 2 2) ∧ h_ = [Hp.one b35 (.cells #[(.int .i64 f.pl), (.int .i64 f.gsn)] 3 (0, 0))] | 14 => v_ = (S (putS 8 [f.pl, f.gsn])) ∧ h_ = [] | 15 => v_ = (.pointer (some ⟨b2, 3, none⟩)) ∧ h_ = [] | 16 => v_ = (S (f.data ++ l.flatten)) ∧ h_ = [] | 17 => ∃ (b41 : Nat), v_ = (.slice (some ⟨b41, 0, none⟩) 4 4) ∧ h_ = [Hp.one b41 (.cells #[(S (putS 1 [((f.data ++ l.flatten).length : Int)])), (S (putS 4 [f.ep])), (S (putS 8 [f.pl, f.gsn])), (S (f.data ++ l.flatten))] 9 (0, 0))] | 18 => v_ = (S (sealS [(putS 1 [((f.data ++ l.flatten).length : Int)]), (putS 4 [f.ep]), (putS 8 [f.pl, f.gsn]), f.data ++ l.flatten].flatten)) ∧ h_ = [] | 19 => v_ = (S (sealS [(putS 1 [((f.data ++ l.flatten).length : Int)]), (putS 4 [f.ep]), (putS 8 [f.pl, f.gsn]), f.data ++ l.flatten].flatten)) ∧ h_ = [] | _ => True) mixed (by kernel_rfl) (flow_has (cs := []) hH17 rfl) ?_ ?_
  ·
   intro i_ o_ ho_ r' w' G hs_ ht
   match i_, ho_ with
   | 0, ho_ =>
    obtain rfl := Option.some.inj ho_
    have e2 : r' 2 = (.pointer (some ⟨b2, 0, none⟩)) := ht.was 2 (by kernel_rfl)
    have hG := ht.has.drop
    refine zg (k := 3) (fun _ => by kernel_rfl) e2 ?_
    exact ⟨_, ⟨rfl, rfl⟩, hG⟩
   | 1, ho_ =>
    obtain rfl := Option.some.inj ho_
    obtain ⟨e14, eh0⟩ := (ht.done 0 _ rfl rfl).1
    have hG := ht.has.drop
    refine zj (v := (S (f.data ++ l.flatten))) Tryz.underlying9 rfl e14 hG (ht.fr [Hp.one b2 (.cells #[(.int .i64 f.ep), (.int .i64 f.pl), (.int .i64 f.gsn), (S (f.data ++ l.flatten))] 176 (0, 0))] (by simp)) (CellsAt.one rfl) ?_
    exact ⟨_, ⟨rfl, rfl⟩, hG⟩
   | 2, ho_ =>
    obtain rfl := Option.some.inj ho_
    obtain ⟨e15, eh1⟩ := (ht.done 1 _ rfl rfl).1
    have hG := ht.has.drop
    refine yb Tryz.underlying9 e15 ?_
    exact ⟨_, ⟨rfl, rfl⟩, hG⟩
   | 3, ho_ =>
    obtain rfl := Option.some.inj ho_
    obtain ⟨e16, eh2⟩ := (ht.done 2 _ rfl rfl).1
    have hG := ht.has.drop
    refine zu (ps := #[(0, (.int .i64 ((f.data ++ l.flatten).length : Int)))]) (cells := #[(.int .i64 ((f.data ++ l.flatten).length : Int))]) Tryz.underlying47 ti3 (by decide) (parts1 e16) (by kernel_rfl) hG fun b23 w24 hH25 => ?_
    exact ⟨_, ⟨b23, rfl, rfl⟩, hH25⟩
   | 4, ho_ =>
    obtain rfl := Option.some.inj ho_
    obtain ⟨b23, e17, eh3⟩ := (ht.done 3 _ rfl rfl).1
    have hG := ht.has.drop
    refine zk (vs := #[(.int .i64 1), (.slice (some ⟨b23, 0, none⟩) 1 1)]) ca90 rfl (zI rfl e17) (put_c hG.all 1 (l := [((f.data ++ l.flatten).length : Int)]) ((zW (f := iV) (l := [((f.data ++ l.flatten).length : Int)]) rfl rfl (by simp)).mono (eh3 ▸ (ht.done 3 _ rfl rfl).2)) (by simp)) ?_
    rintro _ w28 ⟨rfl, hX26⟩
    refine ⟨_, rfl, ?_⟩
    have hH27 := hX26.of_all
    exact ⟨_, ⟨rfl, rfl⟩, hH27⟩
   | 5, ho_ =>
    obtain rfl := Option.some.inj ho_
    have e2 : r' 2 = (.pointer (some ⟨b2, 0, none⟩)) := ht.was 2 (by kernel_rfl)
    have hG := ht.has.drop
    refine zg (k := 0) (fun _ => by kernel_rfl) e2 ?_
    exact ⟨_, ⟨rfl, rfl⟩, hG⟩
   | 6, ho_ =>
    obtain rfl := Option.some.inj ho_
    obtain ⟨e19, eh5⟩ := (ht.done 5 _ rfl rfl).1
    have hG := ht.has.drop
    refine zj (v := (.int .i64 f.ep)) Tryz.underlying3 rfl e19 hG (ht.fr [Hp.one b2 (.cells #[(.int .i64 f.ep), (.int .i64 f.pl), (.int .i64 f.gsn), (S (f.data ++ l.flatten))] 176 (0, 0))] (by simp)) (CellsAt.one rfl) ?_
    exact ⟨_, ⟨rfl, rfl⟩, hG⟩
   | 7, ho_ =>
    obtain rfl := Option.some.inj ho_
    obtain ⟨e20, eh6⟩ := (ht.done 6 _ rfl rfl).1
    have hG := ht.has.drop
    refine zu (ps := #[(0, (.int .i64 f.ep))]) (cells := #[(.int .i64 f.ep)]) Tryz.underlying47 ti3 (by decide) (parts1 e20) (by kernel_rfl) hG fun b29 w30 hH31 => ?_
    exact ⟨_, ⟨b29, rfl, rfl⟩, hH31⟩
   | 8, ho_ =>
    obtain rfl := Option.some.inj ho_
    obtain ⟨b23, e17, eh3⟩ := (ht.done 3 _ rfl rfl).1
    obtain ⟨b29, e21, eh7⟩ := (ht.done 7 _ rfl rfl).1
    have hG := ht.has.drop
    refine zk (vs := #[(.int .i64 4), (.slice (some ⟨b29, 0, none⟩) 1 1)]) ca90 rfl (zI rfl e21) (put_c hG.all 4 (l := [f.ep]) ((zW (f := iV) (l := [f.ep]) rfl rfl (by simp)).mono (eh7 ▸ (ht.done 7 _ rfl rfl).2)) (by simp)) ?_
    rintro _ w34 ⟨rfl, hX32⟩
    refine ⟨_, rfl, ?_⟩
    have hH33 := hX32.of_all
    exact ⟨_, ⟨rfl, rfl⟩, hH33⟩
   | 9, ho_ =>
    obtain rfl := Option.some.inj ho_
    have e2 : r' 2 = (.pointer (some ⟨b2, 0, none⟩)) := ht.was 2 (by kernel_rfl)
    have hG := ht.has.drop
    refine zg (k := 1) (fun _ => by kernel_rfl) e2 ?_
    exact ⟨_, ⟨rfl, rfl⟩, hG⟩
   | 10, ho_ =>
    obtain rfl := Option.some.inj ho_
    obtain ⟨e23, eh9⟩ := (ht.done 9 _ rfl rfl).1
    have hG := ht.has.drop
    refine zj (v := (.int .i64 f.pl)) Tryz.underlying3 rfl e23 hG (ht.fr [Hp.one b2 (.cells #[(.int .i64 f.ep), (.int .i64 f.pl), (.int .i64 f.gsn), (S (f.data ++ l.flatten))] 176 (0, 0))] (by simp)) (CellsAt.one rfl) ?_
    exact ⟨_, ⟨rfl, rfl⟩, hG⟩
   | 11, ho_ =>
    obtain rfl := Option.some.inj ho_
    have e2 : r' 2 = (.pointer (some ⟨b2, 0, none⟩)) := ht.was 2 (by kernel_rfl)
    have hG := ht.has.drop
    refine zg (k := 2) (fun _ => by kernel_rfl) e2 ?_
    exact ⟨_, ⟨rfl, rfl⟩, hG⟩
   | 12, ho_ =>
    obtain rfl := Option.some.inj ho_
    obtain ⟨e25, eh11⟩ := (ht.done 11 _ rfl rfl).1
    have hG := ht.has.drop
    refine zj (v := (.int .i64 f.gsn)) Tryz.underlying3 rfl e25 hG (ht.fr [Hp.one b2 (.cells #[(.int .i64 f.ep), (.int .i64 f.pl), (.int .i64 f.gsn), (S (f.data ++ l.flatten))] 176 (0, 0))] (by simp)) (CellsAt.one rfl) ?_
    exact ⟨_, ⟨rfl, rfl⟩, hG⟩
   | 13, ho_ =>
    obtain rfl := Option.some.inj ho_
    obtain ⟨e24, eh10⟩ := (ht.done 10 _ rfl rfl).1
    obtain ⟨e26, eh12⟩ := (ht.done 12 _ rfl rfl).1
    have hG := ht.has.drop
    refine zu (ps := #[(0, (.int .i64 f.pl)), (1, (.int .i64 f.gsn))]) (cells := #[(.int .i64 f.pl), (.int .i64 f.gsn)]) Tryz.underlying47 ti3 (by decide) (parts2 e24 e26) (by kernel_rfl) hG fun b35 w36 hH37 => ?_
    exact ⟨_, ⟨b35, rfl, rfl⟩, hH37⟩
   | 14, ho_ =>
    obtain rfl := Option.some.inj ho_
    obtain ⟨b23, e17, eh3⟩ := (ht.done 3 _ rfl rfl).1
    obtain ⟨b29, e21, eh7⟩ := (ht.done 7 _ rfl rfl).1
    obtain ⟨b35, e27, eh13⟩ := (ht.done 13 _ rfl rfl).1
    have hG := ht.has.drop
    refine zk (vs := #[(.int .i64 8), (.slice (some ⟨b35, 0, none⟩) 2 2)]) ca90 rfl (zI rfl e27) (put_c hG.all 8 (l := [f.pl, f.gsn]) ((zW (f := iV) (l := [f.pl, f.gsn]) rfl rfl (by simp)).mono (eh13 ▸ (ht.done 13 _ rfl rfl).2)) (by simp)) ?_
    rintro _ w40 ⟨rfl, hX38⟩
    refine ⟨_, rfl, ?_⟩
    have hH39 := hX38.of_all
    exact ⟨_, ⟨rfl, rfl⟩, hH39⟩
   | 15, ho_ =>
    obtain rfl := Option.some.inj ho_
    have e2 : r' 2 = (.pointer (some ⟨b2, 0, none⟩)) := ht.was 2 (by kernel_rfl)
    have hG := ht.has.drop
    refine zg (k := 3) (fun _ => by kernel_rfl) e2 ?_
    exact ⟨_, ⟨rfl, rfl⟩, hG⟩
   | 16, ho_ =>
    obtain rfl := Option.some.inj ho_
    obtain ⟨e29, eh15⟩ := (ht.done 15 _ rfl rfl).1
    have hG := ht.has.drop
    refine zj (v := (S (f.data ++ l.flatten))) Tryz.underlying9 rfl e29 hG (ht.fr [Hp.one b2 (.cells #[(.int .i64 f.ep), (.int .i64 f.pl), (.int .i64 f.gsn), (S (f.data ++ l.flatten))] 176 (0, 0))] (by simp)) (CellsAt.one rfl) ?_
    exact ⟨_, ⟨rfl, rfl⟩, hG⟩
   | 17, ho_ =>
    obtain rfl := Option.some.inj ho_
    obtain ⟨b23, e17, eh3⟩ := (ht.done 3 _ rfl rfl).1
    obtain ⟨e18, eh4⟩ := (ht.done 4 _ rfl rfl).1
    obtain ⟨b29, e21, eh7⟩ := (ht.done 7 _ rfl rfl).1
    obtain ⟨e22, eh8⟩ := (ht.done 8 _ rfl rfl).1
    obtain ⟨b35, e27, eh13⟩ := (ht.done 13 _ rfl rfl).1
    obtain ⟨e28, eh14⟩ := (ht.done 14 _ rfl rfl).1
    obtain ⟨e30, eh16⟩ := (ht.done 16 _ rfl rfl).1
    have hG := ht.has.drop
    refine zu (ps := #[(0, (S (putS 1 [((f.data ++ l.flatten).length : Int)]))), (1, (S (putS 4 [f.ep]))), (2, (S (putS 8 [f.pl, f.gsn]))), (3, (S (f.data ++ l.flatten)))]) (cells := #[(S (putS 1 [((f.data ++ l.flatten).length : Int)])), (S (putS 4 [f.ep])), (S (putS 8 [f.pl, f.gsn])), (S (f.data ++ l.flatten))]) Tryz.underlying46 ti9 (by decide) (parts4 e18 e22 e28 e30) (by kernel_rfl) hG fun b41 w42 hH43 => ?_
    exact ⟨_, ⟨b41, rfl, rfl⟩, hH43⟩
   | 18, ho_ =>
    obtain rfl := Option.some.inj ho_
    obtain ⟨b23, e17, eh3⟩ := (ht.done 3 _ rfl rfl).1
    obtain ⟨b29, e21, eh7⟩ := (ht.done 7 _ rfl rfl).1
    obtain ⟨b35, e27, eh13⟩ := (ht.done 13 _ rfl rfl).1
    obtain ⟨b41, e31, eh17⟩ := (ht.done 17 _ rfl rfl).1
    have hG := ht.has.drop
    refine zk (vs := #[(.slice (some ⟨b41, 0, none⟩) 4 4)]) ca89 rfl (zF e31) (seal_c hG.all (hg.mono (ht.fr R (by simp))) ((zW (f := sV) (l := [(putS 1 [((f.data ++ l.flatten).length : Int)]), (putS 4 [f.ep]), (putS 8 [f.pl, f.gsn]), f.data ++ l.flatten]) rfl rfl (by simp)).mono (eh17 ▸ (ht.done 17 _ rfl rfl).2)) (by simp) (by rw [put_flat hr, List.length_append, headS_len]; simp only [List.length_append]; omega)) ?_
    rintro _ w46 ⟨rfl, hX44⟩
    refine ⟨_, rfl, ?_⟩
    have hH45 := hX44.of_all
    exact ⟨_, ⟨rfl, rfl⟩, hH45⟩
   | 19, ho_ =>
    obtain rfl := Option.some.inj ho_
    obtain ⟨b23, e17, eh3⟩ := (ht.done 3 _ rfl rfl).1
    obtain ⟨b29, e21, eh7⟩ := (ht.done 7 _ rfl rfl).1
    obtain ⟨b35, e27, eh13⟩ := (ht.done 13 _ rfl rfl).1
    obtain ⟨b41, e31, eh17⟩ := (ht.done 17 _ rfl rfl).1
    obtain ⟨e32, eh18⟩ := (ht.done 18 _ rfl rfl).1
    have hG := ht.has.drop
    refine ze (v := (S (sealS [(putS 1 [((f.data ++ l.flatten).length : Int)]), (putS 4 [f.ep]), (putS 8 [f.pl, f.gsn]), f.data ++ l.flatten].flatten))) e32 ?_
    exact ⟨_, ⟨rfl, rfl⟩, hG⟩
   | i_ + 20, ho_ => exact absurd ho_ (by simp)
  ·
   intro vs47 hs48 w49 hT50 hH51
   obtain ⟨e0_, eh0_⟩ := hT50 0 _ rfl
   obtain ⟨e1_, eh1_⟩ := hT50 1 _ rfl
   obtain ⟨e2_, eh2_⟩ := hT50 2 _ rfl
   obtain ⟨b23, e3_, eh3_⟩ := hT50 3 _ rfl
   obtain ⟨e4_, eh4_⟩ := hT50 4 _ rfl
   obtain ⟨e5_, eh5_⟩ := hT50 5 _ rfl
   obtain ⟨e6_, eh6_⟩ := hT50 6 _ rfl
   obtain ⟨b29, e7_, eh7_⟩ := hT50 7 _ rfl
   obtain ⟨e8_, eh8_⟩ := hT50 8 _ rfl
   obtain ⟨e9_, eh9_⟩ := hT50 9 _ rfl
   obtain ⟨e10_, eh10_⟩ := hT50 10 _ rfl
   obtain ⟨e11_, eh11_⟩ := hT50 11 _ rfl
   obtain ⟨e12_, eh12_⟩ := hT50 12 _ rfl
   obtain ⟨b35, e13_, eh13_⟩ := hT50 13 _ rfl
   obtain ⟨e14_, eh14_⟩ := hT50 14 _ rfl
   obtain ⟨e15_, eh15_⟩ := hT50 15 _ rfl
   obtain ⟨e16_, eh16_⟩ := hT50 16 _ rfl
   obtain ⟨b41, e17_, eh17_⟩ := hT50 17 _ rfl
   obtain ⟨e18_, eh18_⟩ := hT50 18 _ rfl
   obtain ⟨e19_, eh19_⟩ := hT50 19 _ rfl
   have hH52 : Has E w49 ([[Hp.one b2 (.cells #[(.int .i64 f.ep), (.int .i64 f.pl), (.int .i64 f.gsn), (S (f.data ++ l.flatten))] 176 (0, 0))], R] ++ [[Hp.one b23 (.cells #[(.int .i64 ((f.data ++ l.flatten).length : Int))] 3 (0, 0))], [Hp.one b29 (.cells #[(.int .i64 f.ep)] 3 (0, 0))], [Hp.one b35 (.cells #[(.int .i64 f.pl), (.int .i64 f.gsn)] 3 (0, 0))], [Hp.one b41 (.cells #[(S (putS 1 [((f.data ++ l.flatten).length : Int)])), (S (putS 4 [f.ep])), (S (putS 8 [f.pl, f.gsn])), (S (f.data ++ l.flatten))] 9 (0, 0))]]) := flow_back (cs := [[Hp.one b23 (.cells #[(.int .i64 ((f.data ++ l.flatten).length : Int))] 3 (0, 0))], [Hp.one b29 (.cells #[(.int .i64 f.ep)] 3 (0, 0))], [Hp.one b35 (.cells #[(.int .i64 f.pl), (.int .i64 f.gsn)] 3 (0, 0))], [Hp.one b41 (.cells #[(S (putS 1 [((f.data ++ l.flatten).length : Int)])), (S (putS 4 [f.ep])), (S (putS 8 [f.pl, f.gsn])), (S (f.data ++ l.flatten))] 9 (0, 0))]]) hH51 (by show (hs48 0 ++ (hs48 1 ++ (hs48 2 ++ (hs48 3 ++ (hs48 4 ++ (hs48 5 ++ (hs48 6 ++ (hs48 7 ++ (hs48 8 ++ (hs48 9 ++ (hs48 10 ++ (hs48 11 ++ (hs48 12 ++ (hs48 13 ++ (hs48 14 ++ (hs48 15 ++ (hs48 16 ++ (hs48 17 ++ (hs48 18 ++ (hs48 19 ++ [])))))))))))))))))))) = _; rw [eh0_, eh1_, eh2_, eh3_, eh4_, eh5_, eh6_, eh7_, eh8_, eh9_, eh10_, eh11_, eh12_, eh13_, eh14_, eh15_, eh16_, eh17_, eh18_, eh19_]; rfl)
   generalize hr54 : puts vs47 _ 0 _ = r53
   have e55_0 : r53 0 = (.agg #[(.int .i64 f.ep), (.int .i64 f.pl), (.int .i64 f.gsn), (S f.data)]) := by rw [← hr54]; exact rfl
   have e55_1 : r53 1 = v := by rw [← hr54]; exact rfl
   have e55_2 : r53 2 = (.pointer (some ⟨b2, 0, none⟩)) := by rw [← hr54]; exact rfl
   have e55_4 : r53 4 = (S (sealS [(putS 1 [((f.data ++ l.flatten).length : Int)]), (putS 4 [f.ep]), (putS 8 [f.pl, f.gsn]), f.data ++ l.flatten].flatten)) := by rw [← hr54]; exact e19_
   have e55_13 : r53 13 = (.bool (!(rightS (Fr.mk f.ep f.pl f.gsn (f.data ++ l.flatten))))) := by rw [← hr54]; exact rfl
   refine zc (hK22 _ _ ?_)
   refine wp_ret ?_
   refine zq Tryz.results107  (v := (S (sealS [(putS 1 [((f.data ++ l.flatten).length : Int)]), (putS 4 [f.ep]), (putS 8 [f.pl, f.gsn]), f.data ++ l.flatten].flatten))) e55_4 ?_
   have hH56 : Has E w49 [R] := (hH52.front 1 rfl).first 1 rfl
   exact ⟨by rw [makeS_yes hr, ← put_flat hr], hH56⟩
theorem make1_c {E w : World} {R : List Hp} (hH : Has E w [R]) (hg : CellsAt R 0 0 nibV) (f : Fr) (hfl : f.data.length ≤ 9223372036854775807) :
  Calls Tryz.prog 107 #[(.agg #[(.int .i64 f.ep), (.int .i64 f.pl), (.int .i64 f.gsn), (S f.data)]), (.slice none 0 0)] w fun e w' => e = .returned (S (makeS f)) ∧ Has E w' [R] := by
 have h := make_c hH hg f hfl (v := .slice none 0 0) (l := []) (sl_nil 1) (by simp) (by simp) (by simpa using hfl)
 have e : (Fr.mk f.ep f.pl f.gsn (f.data ++ ([] : List (List UInt8)).flatten)) = f := by simp
 rw [e] at h
 exact h
end Go.Q
namespace Go.Q
open Go.Proofs
set_option linter.unusedVariables false
set_option maxRecDepth 100000
attribute [local irreducible] wpList OK Code.wp
set_option maxHeartbeats 4000000 in
theorem ssave_c {E w : World} {R sg ss : List Hp} {pb sb db ab : Nat} {d : Dv} {v : StmS} {n : Int} (hH : Has E w [sg, [Hp.one pb (.cells #[(.bool d.p.off), (.bool d.p.armed), (.int .i64 d.p.left), (.int .i64 d.p.uses)] 145 (0, 0))], [Hp.one ab (.cells #[(.pointer (some ⟨db, 0, none⟩)), (.int .i64 2), (.int .i64 n)] 265 (0, 0))], ss, R]) (hd : DevAt pb sg db d.la d.lo) (hs : StmAt db ab sb ss v) {k : Nat} (hf : Few d.p k) (hk : k ≤ 400000) (hlk : LoOk d.lo d.la.length) (h4 : d.la.length ≤ 4096) (hg : CellsAt R 0 0 nibV) {h : Hd} :
  Calls Tryz.prog 110 #[(.pointer (some ⟨sb, 0, none⟩)), (.agg #[(.int .i64 h.seq), (.int .i64 h.ep), (.int .i64 h.cut), (.int .i64 h.st), (.int .i64 h.mrk)])] w fun e w' => ∃ sg' ss', e = .returned (.int .i64 (saveS d v h).1) ∧ DevAt pb sg' db (saveS d v h).2.1.la (saveS d v h).2.1.lo ∧ StmAt db ab sb ss' (saveS d v h).2.2 ∧ Has E w' [sg', [Hp.one pb (.cells #[(.bool ((saveS d v h).2.1).p.off), (.bool ((saveS d v h).2.1).p.armed), (.int .i64 ((saveS d v h).2.1).p.left), (.int .i64 ((saveS d v h).2.1).p.uses)] 145 (0, 0))], [Hp.one ab (.cells #[(.pointer (some ⟨db, 0, none⟩)), (.int .i64 2), (.int .i64 n)] 265 (0, 0))], ss', R] := by
 refine zs (args := [(.pointer (some ⟨sb, 0, none⟩)), (.agg #[(.int .i64 h.seq), (.int .i64 h.ep), (.int .i64 h.cut), (.int .i64 h.st), (.int .i64 h.mrk)])]) Tryz.func110 rfl Tryz.ntmps110 (by simp) ?_
 refine wp_seq_k fun K1 hK1 => ?_
 refine zb ?_
 refine za (o_box (cs := #[(.int .i64 h.seq), (.int .i64 h.ep), (.int .i64 h.cut), (.int .i64 h.st), (.int .i64 h.mrk)]) rfl rfl hH fun b2 w3 hH4 => ?_)
 refine za (ze (v := (.int .i64 0)) rfl ?_)
 refine zf ?_
 refine zc (hK1 _ _ ?_)
 refine wp_seq_k fun K5 hK5 => ?_
 refine Rest.region mixed (by kernel_rfl) ?_
 have hH6 : Has E { w3 with drawn := w3.drawn + 1 } [[Hp.one b2 (.cells #[(.int .i64 h.seq), (.int .i64 h.ep), (.int .i64 h.cut), (.int .i64 h.st), (.int .i64 h.mrk)] 23 (0, 0))], sg, [Hp.one pb (.cells #[(.bool d.p.off), (.bool d.p.armed), (.int .i64 d.p.left), (.int .i64 d.p.uses)] 145 (0, 0))], [Hp.one ab (.cells #[(.pointer (some ⟨db, 0, none⟩)), (.int .i64 2), (.int .i64 n)] 265 (0, 0))], ss, R] := Has0.drew hH4 _
 obtain ⟨x7, s8, rfl, f9⟩ := hs
 have hH10 : Has E { w3 with drawn := w3.drawn + 1 } [[Hp.one sb (.cells #[(.int .i64 v.seq), (.int .i64 v.ep), (.int .i64 v.hcut), (.int .i64 v.st), (.int .i64 v.mrk), (.pointer (some ⟨db, 0, none⟩)), (.pointer (some ⟨ab, 0, none⟩)), x7, (.int .i64 v.tail), (.int .i64 v.flushed), (.int .i64 v.res), (.bool v.cut), (.int .i64 v.err)] 175 (0, 0))], s8, [Hp.one b2 (.cells #[(.int .i64 h.seq), (.int .i64 h.ep), (.int .i64 h.cut), (.int .i64 h.st), (.int .i64 h.mrk)] 23 (0, 0))], sg, [Hp.one pb (.cells #[(.bool d.p.off), (.bool d.p.armed), (.int .i64 d.p.left), (.int .i64 d.p.uses)] 145 (0, 0))], [Hp.one ab (.cells #[(.pointer (some ⟨db, 0, none⟩)), (.int .i64 2), (.int .i64 n)] 265 (0, 0))], R] := Has.op2 (hH6.front 4 rfl)
 refine Rest.phaseA (fun w_ => Has E w_ [[Hp.one sb (.cells #[(.int .i64 v.seq), (.int .i64 v.ep), (.int .i64 v.hcut), (.int .i64 v.st), (.int .i64 v.mrk), (.pointer (some ⟨db, 0, none⟩)), (.pointer (some ⟨ab, 0, none⟩)), x7, (.int .i64 v.tail), (.int .i64 v.flushed), (.int .i64 v.res), (.bool v.cut), (.int .i64 v.err)] 175 (0, 0))], [Hp.one b2 (.cells #[(.int .i64 h.seq), (.int .i64 h.ep), (.int .i64 h.cut), (.int .i64 h.st), (.int .i64 h.mrk)] 23 (0, 0))]]) 0 11 11 rfl (by decide) (by kernel_rfl) ?_
 refine zr 0 rfl (by kernel_rfl) (fun w_ h_ => zd (v := (.pointer (some ⟨sb, 0, none⟩))) rfl ⟨rfl, rfl⟩) ?_
 refine zr 1 rfl (by kernel_rfl) (fun w_ h_ => zl rfl ⟨rfl, rfl⟩) ?_
 refine zr 2 rfl (by kernel_rfl) (fun w_ h_ => zg (k := 5) (fun _ => by kernel_rfl) rfl ⟨rfl, rfl⟩) ?_
 refine zr 3 rfl (by kernel_rfl) (fun w_ h_ => zj (v := (.pointer (some ⟨db, 0, none⟩))) Tryz.underlying25 rfl rfl h_ (zh 0 rfl) (CellsAt.one rfl) ⟨rfl, rfl⟩) ?_
 refine zr 4 rfl (by kernel_rfl) (fun w_ h_ => zC (cs := [(.int .i64 h.seq), (.int .i64 h.ep), (.int .i64 h.cut), (.int .i64 h.st), (.int .i64 h.mrk)]) Tryz.underlying23 rfl zR rfl h_ (zh 1 rfl) (CellsAt.one rfl) ⟨rfl, rfl⟩) ?_
 have hH11 : Has E { w3 with drawn := w3.drawn + 1 } [[Hp.one sb (.cells #[(.int .i64 v.seq), (.int .i64 v.ep), (.int .i64 v.hcut), (.int .i64 v.st), (.int .i64 v.mrk), (.pointer (some ⟨db, 0, none⟩)), (.pointer (some ⟨ab, 0, none⟩)), x7, (.int .i64 v.tail), (.int .i64 v.flushed), (.int .i64 v.res), (.bool v.cut), (.int .i64 v.err)] 175 (0, 0))], [Hp.one b2 (.cells #[(.int .i64 h.seq), (.int .i64 h.ep), (.int .i64 h.cut), (.int .i64 h.st), (.int .i64 h.mrk)] 23 (0, 0))]] := ((hH10.front 2 rfl).front 1 rfl).first 2 rfl
 refine a_two 5 9 (by kernel_rfl) hH11 ?_ ?_
 ·
  have hH12 : Has E { w3 with drawn := w3.drawn + 1 } [[Hp.one sb (.cells #[(.int .i64 v.seq), (.int .i64 v.ep), (.int .i64 v.hcut), (.int .i64 v.st), (.int .i64 v.mrk), (.pointer (some ⟨db, 0, none⟩)), (.pointer (some ⟨ab, 0, none⟩)), x7, (.int .i64 v.tail), (.int .i64 v.flushed), (.int .i64 v.res), (.bool v.cut), (.int .i64 v.err)] 175 (0, 0))], [Hp.one b2 (.cells #[(.int .i64 h.seq), (.int .i64 h.ep), (.int .i64 h.cut), (.int .i64 h.st), (.int .i64 h.mrk)] 23 (0, 0))]] := ((hH10.front 2 rfl).front 1 rfl).first 2 rfl
  refine ok_w 5 rfl (zk (vs := #[(.pointer (some ⟨db, 0, none⟩)), (.int .i64 0), (.agg #[(.int .i64 h.seq), (.int .i64 h.ep), (.int .i64 h.cut), (.int .i64 h.st), (.int .i64 h.mrk)])]) ca123 rfl (args3 rfl rfl rfl) (hsv_c (d := d) ((hH10.front 4 rfl).front 4 rfl).all2 hd hf (by omega) hlk h4 (hg.mono (zh 4 rfl)) 0 (h := h)) ?_)
  rintro _ w17 ⟨sg13, rfl, hd14, hX15⟩
  refine ⟨_, rfl, ?_⟩
  have hH16 : Has E w17 [sg13, [Hp.one pb (.cells #[(.bool ((svD d 0 h).2.2).p.off), (.bool ((svD d 0 h).2.2).p.armed), (.int .i64 ((svD d 0 h).2.2).p.left), (.int .i64 ((svD d 0 h).2.2).p.uses)] 145 (0, 0))], [Hp.one sb (.cells #[(.int .i64 v.seq), (.int .i64 v.ep), (.int .i64 v.hcut), (.int .i64 v.st), (.int .i64 v.mrk), (.pointer (some ⟨db, 0, none⟩)), (.pointer (some ⟨ab, 0, none⟩)), x7, (.int .i64 v.tail), (.int .i64 v.flushed), (.int .i64 v.res), (.bool v.cut), (.int .i64 v.err)] 175 (0, 0))], s8, [Hp.one b2 (.cells #[(.int .i64 h.seq), (.int .i64 h.ep), (.int .i64 h.cut), (.int .i64 h.st), (.int .i64 h.mrk)] 23 (0, 0))], [Hp.one ab (.cells #[(.pointer (some ⟨db, 0, none⟩)), (.int .i64 2), (.int .i64 n)] 265 (0, 0))], R] := hX15.of_all2
  refine zr 6 rfl (by kernel_rfl) (fun w_ h_ => zd (v := (.tuple #[(.agg #[(.int .i64 ((svD d 0 h).2.1).seq), (.int .i64 ((svD d 0 h).2.1).ep), (.int .i64 ((svD d 0 h).2.1).cut), (.int .i64 ((svD d 0 h).2.1).st), (.int .i64 ((svD d 0 h).2.1).mrk)]), (.int .i64 ((svD d 0 h).1))])) rfl ⟨rfl, rfl⟩) ?_
  refine zr 7 rfl (by kernel_rfl) (fun w_ h_ => zp (v := (.agg #[(.int .i64 ((svD d 0 h).2.1).seq), (.int .i64 ((svD d 0 h).2.1).ep), (.int .i64 ((svD d 0 h).2.1).cut), (.int .i64 ((svD d 0 h).2.1).st), (.int .i64 ((svD d 0 h).2.1).mrk)])) rfl rfl ⟨rfl, rfl⟩) ?_
  refine zr 8 rfl (by kernel_rfl) (fun w_ h_ => zp (v := (.int .i64 ((svD d 0 h).1))) rfl rfl ⟨rfl, rfl⟩) ?_
  have hH18 : Has E w17 [[Hp.one sb (.cells #[(.int .i64 v.seq), (.int .i64 v.ep), (.int .i64 v.hcut), (.int .i64 v.st), (.int .i64 v.mrk), (.pointer (some ⟨db, 0, none⟩)), (.pointer (some ⟨ab, 0, none⟩)), x7, (.int .i64 v.tail), (.int .i64 v.flushed), (.int .i64 v.res), (.bool v.cut), (.int .i64 v.err)] 175 (0, 0))], [Hp.one b2 (.cells #[(.int .i64 h.seq), (.int .i64 h.ep), (.int .i64 h.cut), (.int .i64 h.st), (.int .i64 h.mrk)] 23 (0, 0))]] := ((hH16.front 4 rfl).front 3 rfl).first 2 rfl
  refine a_w 9 rfl (by kernel_rfl) hH18 (zU (cs := #[(.int .i64 0), (.int .i64 0), (.int .i64 0), (.int .i64 0), (.int .i64 0)]) zR rfl hH16 fun b19 w20 hH21 => ?_)
  have hH22 : Has E w20 [[Hp.one sb (.cells #[(.int .i64 v.seq), (.int .i64 v.ep), (.int .i64 v.hcut), (.int .i64 v.st), (.int .i64 v.mrk), (.pointer (some ⟨db, 0, none⟩)), (.pointer (some ⟨ab, 0, none⟩)), x7, (.int .i64 v.tail), (.int .i64 v.flushed), (.int .i64 v.res), (.bool v.cut), (.int .i64 v.err)] 175 (0, 0))], [Hp.one b2 (.cells #[(.int .i64 h.seq), (.int .i64 h.ep), (.int .i64 h.cut), (.int .i64 h.st), (.int .i64 h.mrk)] 23 (0, 0))]] := ((hH21.front 5 rfl).front 4 rfl).first 2 rfl
  refine a_we 10 rfl (by kernel_rfl) hH22 (zw (vs := [(.int .i64 ((svD d 0 h).2.1).seq), (.int .i64 ((svD d 0 h).2.1).ep), (.int .i64 ((svD d 0 h).2.1).cut), (.int .i64 ((svD d 0 h).2.1).st), (.int .i64 ((svD d 0 h).2.1).mrk)]) (c' := #[(.int .i64 ((svD d 0 h).2.1).seq), (.int .i64 ((svD d 0 h).2.1).ep), (.int .i64 ((svD d 0 h).2.1).cut), (.int .i64 ((svD d 0 h).2.1).st), (.int .i64 ((svD d 0 h).2.1).mrk)]) zR rfl rfl rfl rfl (by intro u hu; simp only [List.mem_cons, List.not_mem_nil, or_false] at hu; rcases hu with rfl | rfl | rfl | rfl | rfl <;> first | rfl) (by simp) (by kernel_rfl) (hH21.front 0 rfl) fun w23 hH24 => ?_)
  have hH25 : Has E w23 [[Hp.one sb (.cells #[(.int .i64 v.seq), (.int .i64 v.ep), (.int .i64 v.hcut), (.int .i64 v.st), (.int .i64 v.mrk), (.pointer (some ⟨db, 0, none⟩)), (.pointer (some ⟨ab, 0, none⟩)), x7, (.int .i64 v.tail), (.int .i64 v.flushed), (.int .i64 v.res), (.bool v.cut), (.int .i64 v.err)] 175 (0, 0))], [Hp.one b2 (.cells #[(.int .i64 h.seq), (.int .i64 h.ep), (.int .i64 h.cut), (.int .i64 h.st), (.int .i64 h.mrk)] 23 (0, 0))]] := ((hH24.front 5 rfl).front 4 rfl).first 2 rfl
  refine zQ (by kernel_rfl) hH25 ?_
  refine zP 11 rfl (by kernel_rfl) (ze (v := (.int .i64 ((svD d 0 h).1))) rfl ?_)
  refine Rest.done (by kernel_rfl) ?_
  refine zc (hK5 _ _ ?_)
  refine wp_seq_k fun K26 hK26 => ?_
  refine wp_seq_k fun K27 hK27 => ?_
  refine zb ?_
  refine za (zd (v := (.int .i64 ((svD d 0 h).1))) rfl ?_)
  refine za (yd (a := (svD d 0 h).1) (b := 0) rfl rfl ?_)
  refine zf ?_
  refine zc (hK27 _ _ ?_)
  refine zt rfl (fun h28 => ?_) (fun h28 => ?_)
  ·
   refine zb ?_
   refine za (zd (v := (.pointer (some ⟨sb, 0, none⟩))) rfl ?_)
   refine za (zC (cs := [(.int .i64 ((svD d 0 h).2.1).seq), (.int .i64 ((svD d 0 h).2.1).ep), (.int .i64 ((svD d 0 h).2.1).cut), (.int .i64 ((svD d 0 h).2.1).st), (.int .i64 ((svD d 0 h).2.1).mrk)]) Tryz.underlying23 rfl zR rfl hH24 (zh 0 rfl) (CellsAt.one rfl) ?_)
   refine za (zK (v := (.agg #[(.int .i64 ((svD d 0 h).2.1).seq), (.int .i64 ((svD d 0 h).2.1).ep), (.int .i64 ((svD d 0 h).2.1).cut), (.int .i64 ((svD d 0 h).2.1).st), (.int .i64 ((svD d 0 h).2.1).mrk)])) (fun _ => by kernel_rfl) ?_)
   refine za (zl rfl ?_)
   refine za (zg (k := 0) (fun _ => by kernel_rfl) rfl ?_)
   refine zB (zw (vs := [(.int .i64 ((svD d 0 h).2.1).seq), (.int .i64 ((svD d 0 h).2.1).ep), (.int .i64 ((svD d 0 h).2.1).cut), (.int .i64 ((svD d 0 h).2.1).st), (.int .i64 ((svD d 0 h).2.1).mrk)]) (c' := #[(.int .i64 ((svD d 0 h).2.1).seq), (.int .i64 ((svD d 0 h).2.1).ep), (.int .i64 ((svD d 0 h).2.1).cut), (.int .i64 ((svD d 0 h).2.1).st), (.int .i64 ((svD d 0 h).2.1).mrk), (.pointer (some ⟨db, 0, none⟩)), (.pointer (some ⟨ab, 0, none⟩)), x7, (.int .i64 v.tail), (.int .i64 v.flushed), (.int .i64 v.res), (.bool v.cut), (.int .i64 v.err)]) ti173 rfl rfl rfl rfl (by intro u hu; simp only [List.mem_cons, List.not_mem_nil, or_false] at hu; rcases hu with rfl | rfl | rfl | rfl | rfl <;> first | rfl) (by simp) (by kernel_rfl) (hH24.front 3 rfl) fun w29 hH30 => ?_)
   refine zf ?_
   refine zc (hK26 _ _ ?_)
   refine wp_seq_k fun K31 hK31 => ?_
   refine zb ?_
   refine za (zd (v := (.pointer (some ⟨sb, 0, none⟩))) rfl ?_)
   refine za (zd (v := (.int .i64 ((svD d 0 h).1))) rfl ?_)
   have hH32 : Has E w29 [([Hp.one sb (.cells #[(.int .i64 ((svD d 0 h).2.1).seq), (.int .i64 ((svD d 0 h).2.1).ep), (.int .i64 ((svD d 0 h).2.1).cut), (.int .i64 ((svD d 0 h).2.1).st), (.int .i64 ((svD d 0 h).2.1).mrk), (.pointer (some ⟨db, 0, none⟩)), (.pointer (some ⟨ab, 0, none⟩)), x7, (.int .i64 v.tail), (.int .i64 v.flushed), (.int .i64 v.res), (.bool v.cut), (.int .i64 v.err)] 175 (0, 0))] ++ s8), [Hp.one b19 (.cells #[(.int .i64 ((svD d 0 h).2.1).seq), (.int .i64 ((svD d 0 h).2.1).ep), (.int .i64 ((svD d 0 h).2.1).cut), (.int .i64 ((svD d 0 h).2.1).st), (.int .i64 ((svD d 0 h).2.1).mrk)] 23 (0, 0))], sg13, [Hp.one pb (.cells #[(.bool ((svD d 0 h).2.2).p.off), (.bool ((svD d 0 h).2.2).p.armed), (.int .i64 ((svD d 0 h).2.2).p.left), (.int .i64 ((svD d 0 h).2.2).p.uses)] 145 (0, 0))], [Hp.one b2 (.cells #[(.int .i64 h.seq), (.int .i64 h.ep), (.int .i64 h.cut), (.int .i64 h.st), (.int .i64 h.mrk)] 23 (0, 0))], [Hp.one ab (.cells #[(.pointer (some ⟨db, 0, none⟩)), (.int .i64 2), (.int .i64 n)] 265 (0, 0))], R] := Has.cl2 ((hH30.front 4 rfl).front 1 rfl)
   have hd33 : StmAt db ab sb ([Hp.one sb (.cells #[(.int .i64 ((svD d 0 h).2.1).seq), (.int .i64 ((svD d 0 h).2.1).ep), (.int .i64 ((svD d 0 h).2.1).cut), (.int .i64 ((svD d 0 h).2.1).st), (.int .i64 ((svD d 0 h).2.1).mrk), (.pointer (some ⟨db, 0, none⟩)), (.pointer (some ⟨ab, 0, none⟩)), x7, (.int .i64 v.tail), (.int .i64 v.flushed), (.int .i64 v.res), (.bool v.cut), (.int .i64 v.err)] 175 (0, 0))] ++ s8) (⟨((svD d 0 h).2.1).seq, ((svD d 0 h).2.1).ep, ((svD d 0 h).2.1).cut, ((svD d 0 h).2.1).st, ((svD d 0 h).2.1).mrk, v.l, v.tail, v.flushed, v.res, v.cut, v.err⟩ : StmS) := StmAt.mk (v := (⟨((svD d 0 h).2.1).seq, ((svD d 0 h).2.1).ep, ((svD d 0 h).2.1).cut, ((svD d 0 h).2.1).st, ((svD d 0 h).2.1).mrk, v.l, v.tail, v.flushed, v.res, v.cut, v.err⟩ : StmS)) f9
   refine za (zk (vs := #[(.pointer (some ⟨sb, 0, none⟩)), (.int .i64 ((svD d 0 h).1))]) ca109 rfl (zI rfl rfl) (sstays_c (db := db) (ab := ab) (v := (⟨((svD d 0 h).2.1).seq, ((svD d 0 h).2.1).ep, ((svD d 0 h).2.1).cut, ((svD d 0 h).2.1).st, ((svD d 0 h).2.1).mrk, v.l, v.tail, v.flushed, v.res, v.cut, v.err⟩ : StmS)) (e_ := (svD d 0 h).1) hH32.all1 hd33) ?_)
   rintro _ w38 ⟨sg34, rfl, hd35, hX36⟩
   refine ⟨_, rfl, ?_⟩
   have hH37 : Has E w38 [sg34, [Hp.one b19 (.cells #[(.int .i64 ((svD d 0 h).2.1).seq), (.int .i64 ((svD d 0 h).2.1).ep), (.int .i64 ((svD d 0 h).2.1).cut), (.int .i64 ((svD d 0 h).2.1).st), (.int .i64 ((svD d 0 h).2.1).mrk)] 23 (0, 0))], sg13, [Hp.one pb (.cells #[(.bool ((svD d 0 h).2.2).p.off), (.bool ((svD d 0 h).2.2).p.armed), (.int .i64 ((svD d 0 h).2.2).p.left), (.int .i64 ((svD d 0 h).2.2).p.uses)] 145 (0, 0))], [Hp.one b2 (.cells #[(.int .i64 h.seq), (.int .i64 h.ep), (.int .i64 h.cut), (.int .i64 h.st), (.int .i64 h.mrk)] 23 (0, 0))], [Hp.one ab (.cells #[(.pointer (some ⟨db, 0, none⟩)), (.int .i64 2), (.int .i64 n)] 265 (0, 0))], R] := hX36.of_all1
   refine za (ze (v := (.int .i64 ((svD d 0 h).1))) rfl ?_)
   refine zf ?_
   refine zc (hK31 _ _ ?_)
   refine wp_ret ?_
   refine zq Tryz.results110  (v := (.int .i64 ((svD d 0 h).1))) rfl ?_
   have hH39 : Has E w38 [sg13, [Hp.one pb (.cells #[(.bool ((svD d 0 h).2.2).p.off), (.bool ((svD d 0 h).2.2).p.armed), (.int .i64 ((svD d 0 h).2.2).p.left), (.int .i64 ((svD d 0 h).2.2).p.uses)] 145 (0, 0))], [Hp.one ab (.cells #[(.pointer (some ⟨db, 0, none⟩)), (.int .i64 2), (.int .i64 n)] 265 (0, 0))], sg34, R] := (((((hH37.front 6 rfl).front 1 rfl).front 6 rfl).front 5 rfl).front 5 rfl).first 5 rfl
   have hE_ : (saveS d v h) = (((svD d 0 h).1), (svD d 0 h).2.2, (stays (⟨((svD d 0 h).2.1).seq, ((svD d 0 h).2.1).ep, ((svD d 0 h).2.1).cut, ((svD d 0 h).2.1).st, ((svD d 0 h).2.1).mrk, v.l, v.tail, v.flushed, v.res, v.cut, v.err⟩ : StmS) ((svD d 0 h).1))) := by
    unfold saveS; rw [if_pos h28]; rfl
   exact ⟨_, _, by rw [hE_], by rw [hE_]; exact hd14, by rw [hE_]; exact hd35, by rw [hE_]; exact hH39⟩
  ·
   refine wp_skip ?_
   refine zc (hK26 _ _ ?_)
   refine wp_seq_k fun K40 hK40 => ?_
   refine zb ?_
   refine za (zd (v := (.pointer (some ⟨sb, 0, none⟩))) rfl ?_)
   refine za (zd (v := (.int .i64 ((svD d 0 h).1))) rfl ?_)
   have hH41 : Has E w23 [([Hp.one sb (.cells #[(.int .i64 v.seq), (.int .i64 v.ep), (.int .i64 v.hcut), (.int .i64 v.st), (.int .i64 v.mrk), (.pointer (some ⟨db, 0, none⟩)), (.pointer (some ⟨ab, 0, none⟩)), x7, (.int .i64 v.tail), (.int .i64 v.flushed), (.int .i64 v.res), (.bool v.cut), (.int .i64 v.err)] 175 (0, 0))] ++ s8), [Hp.one b19 (.cells #[(.int .i64 ((svD d 0 h).2.1).seq), (.int .i64 ((svD d 0 h).2.1).ep), (.int .i64 ((svD d 0 h).2.1).cut), (.int .i64 ((svD d 0 h).2.1).st), (.int .i64 ((svD d 0 h).2.1).mrk)] 23 (0, 0))], sg13, [Hp.one pb (.cells #[(.bool ((svD d 0 h).2.2).p.off), (.bool ((svD d 0 h).2.2).p.armed), (.int .i64 ((svD d 0 h).2.2).p.left), (.int .i64 ((svD d 0 h).2.2).p.uses)] 145 (0, 0))], [Hp.one b2 (.cells #[(.int .i64 h.seq), (.int .i64 h.ep), (.int .i64 h.cut), (.int .i64 h.st), (.int .i64 h.mrk)] 23 (0, 0))], [Hp.one ab (.cells #[(.pointer (some ⟨db, 0, none⟩)), (.int .i64 2), (.int .i64 n)] 265 (0, 0))], R] := Has.cl2 ((hH24.front 4 rfl).front 4 rfl)
   have hd42 : StmAt db ab sb ([Hp.one sb (.cells #[(.int .i64 v.seq), (.int .i64 v.ep), (.int .i64 v.hcut), (.int .i64 v.st), (.int .i64 v.mrk), (.pointer (some ⟨db, 0, none⟩)), (.pointer (some ⟨ab, 0, none⟩)), x7, (.int .i64 v.tail), (.int .i64 v.flushed), (.int .i64 v.res), (.bool v.cut), (.int .i64 v.err)] 175 (0, 0))] ++ s8) v := StmAt.mk (v := v) f9
   refine za (zk (vs := #[(.pointer (some ⟨sb, 0, none⟩)), (.int .i64 ((svD d 0 h).1))]) ca109 rfl (zI rfl rfl) (sstays_c (db := db) (ab := ab) (v := v) (e_ := (svD d 0 h).1) hH41.all1 hd42) ?_)
   rintro _ w47 ⟨sg43, rfl, hd44, hX45⟩
   refine ⟨_, rfl, ?_⟩
   have hH46 : Has E w47 [sg43, [Hp.one b19 (.cells #[(.int .i64 ((svD d 0 h).2.1).seq), (.int .i64 ((svD d 0 h).2.1).ep), (.int .i64 ((svD d 0 h).2.1).cut), (.int .i64 ((svD d 0 h).2.1).st), (.int .i64 ((svD d 0 h).2.1).mrk)] 23 (0, 0))], sg13, [Hp.one pb (.cells #[(.bool ((svD d 0 h).2.2).p.off), (.bool ((svD d 0 h).2.2).p.armed), (.int .i64 ((svD d 0 h).2.2).p.left), (.int .i64 ((svD d 0 h).2.2).p.uses)] 145 (0, 0))], [Hp.one b2 (.cells #[(.int .i64 h.seq), (.int .i64 h.ep), (.int .i64 h.cut), (.int .i64 h.st), (.int .i64 h.mrk)] 23 (0, 0))], [Hp.one ab (.cells #[(.pointer (some ⟨db, 0, none⟩)), (.int .i64 2), (.int .i64 n)] 265 (0, 0))], R] := hX45.of_all1
   refine za (ze (v := (.int .i64 ((svD d 0 h).1))) rfl ?_)
   refine zf ?_
   refine zc (hK40 _ _ ?_)
   refine wp_ret ?_
   refine zq Tryz.results110  (v := (.int .i64 ((svD d 0 h).1))) rfl ?_
   have hH48 : Has E w47 [sg13, [Hp.one pb (.cells #[(.bool ((svD d 0 h).2.2).p.off), (.bool ((svD d 0 h).2.2).p.armed), (.int .i64 ((svD d 0 h).2.2).p.left), (.int .i64 ((svD d 0 h).2.2).p.uses)] 145 (0, 0))], [Hp.one ab (.cells #[(.pointer (some ⟨db, 0, none⟩)), (.int .i64 2), (.int .i64 n)] 265 (0, 0))], sg43, R] := (((((hH46.front 6 rfl).front 1 rfl).front 6 rfl).front 5 rfl).front 5 rfl).first 5 rfl
   have hE_ : (saveS d v h) = (((svD d 0 h).1), (svD d 0 h).2.2, (stays v ((svD d 0 h).1))) := by
    unfold saveS; rw [if_neg h28]
   exact ⟨_, _, by rw [hE_], by rw [hE_]; exact hd14, by rw [hE_]; exact hd44, by rw [hE_]; exact hH48⟩
 ·
  have hH49 : Has E { w3 with drawn := w3.drawn + 1 } [[Hp.one sb (.cells #[(.int .i64 v.seq), (.int .i64 v.ep), (.int .i64 v.hcut), (.int .i64 v.st), (.int .i64 v.mrk), (.pointer (some ⟨db, 0, none⟩)), (.pointer (some ⟨ab, 0, none⟩)), x7, (.int .i64 v.tail), (.int .i64 v.flushed), (.int .i64 v.res), (.bool v.cut), (.int .i64 v.err)] 175 (0, 0))], [Hp.one b2 (.cells #[(.int .i64 h.seq), (.int .i64 h.ep), (.int .i64 h.cut), (.int .i64 h.st), (.int .i64 h.mrk)] 23 (0, 0))]] := ((hH10.front 2 rfl).front 1 rfl).first 2 rfl
  refine ok_w 9 rfl (zU (cs := #[(.int .i64 0), (.int .i64 0), (.int .i64 0), (.int .i64 0), (.int .i64 0)]) zR rfl hH10 fun b50 w51 hH52 => ?_)
  have hH53 : Has E w51 [[Hp.one sb (.cells #[(.int .i64 v.seq), (.int .i64 v.ep), (.int .i64 v.hcut), (.int .i64 v.st), (.int .i64 v.mrk), (.pointer (some ⟨db, 0, none⟩)), (.pointer (some ⟨ab, 0, none⟩)), x7, (.int .i64 v.tail), (.int .i64 v.flushed), (.int .i64 v.res), (.bool v.cut), (.int .i64 v.err)] 175 (0, 0))], [Hp.one b2 (.cells #[(.int .i64 h.seq), (.int .i64 h.ep), (.int .i64 h.cut), (.int .i64 h.st), (.int .i64 h.mrk)] 23 (0, 0))]] := ((hH52.front 3 rfl).front 2 rfl).first 2 rfl
  refine a_w 5 rfl (by kernel_rfl) hH53 (zk (vs := #[(.pointer (some ⟨db, 0, none⟩)), (.int .i64 0), (.agg #[(.int .i64 h.seq), (.int .i64 h.ep), (.int .i64 h.cut), (.int .i64 h.st), (.int .i64 h.mrk)])]) ca123 rfl (args3 rfl rfl rfl) (hsv_c (d := d) ((hH52.front 5 rfl).front 5 rfl).all2 hd hf (by omega) hlk h4 (hg.mono (zh 5 rfl)) 0 (h := h)) ?_)
  rintro _ w58 ⟨sg54, rfl, hd55, hX56⟩
  refine ⟨_, rfl, ?_⟩
  have hH57 : Has E w58 [sg54, [Hp.one pb (.cells #[(.bool ((svD d 0 h).2.2).p.off), (.bool ((svD d 0 h).2.2).p.armed), (.int .i64 ((svD d 0 h).2.2).p.left), (.int .i64 ((svD d 0 h).2.2).p.uses)] 145 (0, 0))], [Hp.one b50 (.cells #[(.int .i64 0), (.int .i64 0), (.int .i64 0), (.int .i64 0), (.int .i64 0)] 23 (0, 0))], [Hp.one sb (.cells #[(.int .i64 v.seq), (.int .i64 v.ep), (.int .i64 v.hcut), (.int .i64 v.st), (.int .i64 v.mrk), (.pointer (some ⟨db, 0, none⟩)), (.pointer (some ⟨ab, 0, none⟩)), x7, (.int .i64 v.tail), (.int .i64 v.flushed), (.int .i64 v.res), (.bool v.cut), (.int .i64 v.err)] 175 (0, 0))], s8, [Hp.one b2 (.cells #[(.int .i64 h.seq), (.int .i64 h.ep), (.int .i64 h.cut), (.int .i64 h.st), (.int .i64 h.mrk)] 23 (0, 0))], [Hp.one ab (.cells #[(.pointer (some ⟨db, 0, none⟩)), (.int .i64 2), (.int .i64 n)] 265 (0, 0))], R] := hX56.of_all2
  refine zr 6 rfl (by kernel_rfl) (fun w_ h_ => zd (v := (.tuple #[(.agg #[(.int .i64 ((svD d 0 h).2.1).seq), (.int .i64 ((svD d 0 h).2.1).ep), (.int .i64 ((svD d 0 h).2.1).cut), (.int .i64 ((svD d 0 h).2.1).st), (.int .i64 ((svD d 0 h).2.1).mrk)]), (.int .i64 ((svD d 0 h).1))])) rfl ⟨rfl, rfl⟩) ?_
  refine zr 7 rfl (by kernel_rfl) (fun w_ h_ => zp (v := (.agg #[(.int .i64 ((svD d 0 h).2.1).seq), (.int .i64 ((svD d 0 h).2.1).ep), (.int .i64 ((svD d 0 h).2.1).cut), (.int .i64 ((svD d 0 h).2.1).st), (.int .i64 ((svD d 0 h).2.1).mrk)])) rfl rfl ⟨rfl, rfl⟩) ?_
  refine zr 8 rfl (by kernel_rfl) (fun w_ h_ => zp (v := (.int .i64 ((svD d 0 h).1))) rfl rfl ⟨rfl, rfl⟩) ?_
  have hH59 : Has E w58 [[Hp.one sb (.cells #[(.int .i64 v.seq), (.int .i64 v.ep), (.int .i64 v.hcut), (.int .i64 v.st), (.int .i64 v.mrk), (.pointer (some ⟨db, 0, none⟩)), (.pointer (some ⟨ab, 0, none⟩)), x7, (.int .i64 v.tail), (.int .i64 v.flushed), (.int .i64 v.res), (.bool v.cut), (.int .i64 v.err)] 175 (0, 0))], [Hp.one b2 (.cells #[(.int .i64 h.seq), (.int .i64 h.ep), (.int .i64 h.cut), (.int .i64 h.st), (.int .i64 h.mrk)] 23 (0, 0))]] := ((hH57.front 5 rfl).front 4 rfl).first 2 rfl
  refine a_we 10 rfl (by kernel_rfl) hH59 (zw (vs := [(.int .i64 ((svD d 0 h).2.1).seq), (.int .i64 ((svD d 0 h).2.1).ep), (.int .i64 ((svD d 0 h).2.1).cut), (.int .i64 ((svD d 0 h).2.1).st), (.int .i64 ((svD d 0 h).2.1).mrk)]) (c' := #[(.int .i64 ((svD d 0 h).2.1).seq), (.int .i64 ((svD d 0 h).2.1).ep), (.int .i64 ((svD d 0 h).2.1).cut), (.int .i64 ((svD d 0 h).2.1).st), (.int .i64 ((svD d 0 h).2.1).mrk)]) zR rfl rfl rfl rfl (by intro u hu; simp only [List.mem_cons, List.not_mem_nil, or_false] at hu; rcases hu with rfl | rfl | rfl | rfl | rfl <;> first | rfl) (by simp) (by kernel_rfl) (hH57.front 2 rfl) fun w60 hH61 => ?_)
  have hH62 : Has E w60 [[Hp.one sb (.cells #[(.int .i64 v.seq), (.int .i64 v.ep), (.int .i64 v.hcut), (.int .i64 v.st), (.int .i64 v.mrk), (.pointer (some ⟨db, 0, none⟩)), (.pointer (some ⟨ab, 0, none⟩)), x7, (.int .i64 v.tail), (.int .i64 v.flushed), (.int .i64 v.res), (.bool v.cut), (.int .i64 v.err)] 175 (0, 0))], [Hp.one b2 (.cells #[(.int .i64 h.seq), (.int .i64 h.ep), (.int .i64 h.cut), (.int .i64 h.st), (.int .i64 h.mrk)] 23 (0, 0))]] := ((hH61.front 5 rfl).front 4 rfl).first 2 rfl
  refine zQ (by kernel_rfl) hH62 ?_
  refine zP 11 rfl (by kernel_rfl) (ze (v := (.int .i64 ((svD d 0 h).1))) rfl ?_)
  refine Rest.done (by kernel_rfl) ?_
  refine zc (hK5 _ _ ?_)
  refine wp_seq_k fun K63 hK63 => ?_
  refine wp_seq_k fun K64 hK64 => ?_
  refine zb ?_
  refine za (zd (v := (.int .i64 ((svD d 0 h).1))) rfl ?_)
  refine za (yd (a := (svD d 0 h).1) (b := 0) rfl rfl ?_)
  refine zf ?_
  refine zc (hK64 _ _ ?_)
  refine zt rfl (fun h65 => ?_) (fun h65 => ?_)
  ·
   refine zb ?_
   refine za (zd (v := (.pointer (some ⟨sb, 0, none⟩))) rfl ?_)
   refine za (zC (cs := [(.int .i64 ((svD d 0 h).2.1).seq), (.int .i64 ((svD d 0 h).2.1).ep), (.int .i64 ((svD d 0 h).2.1).cut), (.int .i64 ((svD d 0 h).2.1).st), (.int .i64 ((svD d 0 h).2.1).mrk)]) Tryz.underlying23 rfl zR rfl hH61 (zh 0 rfl) (CellsAt.one rfl) ?_)
   refine za (zK (v := (.agg #[(.int .i64 ((svD d 0 h).2.1).seq), (.int .i64 ((svD d 0 h).2.1).ep), (.int .i64 ((svD d 0 h).2.1).cut), (.int .i64 ((svD d 0 h).2.1).st), (.int .i64 ((svD d 0 h).2.1).mrk)])) (fun _ => by kernel_rfl) ?_)
   refine za (zl rfl ?_)
   refine za (zg (k := 0) (fun _ => by kernel_rfl) rfl ?_)
   refine zB (zw (vs := [(.int .i64 ((svD d 0 h).2.1).seq), (.int .i64 ((svD d 0 h).2.1).ep), (.int .i64 ((svD d 0 h).2.1).cut), (.int .i64 ((svD d 0 h).2.1).st), (.int .i64 ((svD d 0 h).2.1).mrk)]) (c' := #[(.int .i64 ((svD d 0 h).2.1).seq), (.int .i64 ((svD d 0 h).2.1).ep), (.int .i64 ((svD d 0 h).2.1).cut), (.int .i64 ((svD d 0 h).2.1).st), (.int .i64 ((svD d 0 h).2.1).mrk), (.pointer (some ⟨db, 0, none⟩)), (.pointer (some ⟨ab, 0, none⟩)), x7, (.int .i64 v.tail), (.int .i64 v.flushed), (.int .i64 v.res), (.bool v.cut), (.int .i64 v.err)]) ti173 rfl rfl rfl rfl (by intro u hu; simp only [List.mem_cons, List.not_mem_nil, or_false] at hu; rcases hu with rfl | rfl | rfl | rfl | rfl <;> first | rfl) (by simp) (by kernel_rfl) (hH61.front 3 rfl) fun w66 hH67 => ?_)
   refine zf ?_
   refine zc (hK63 _ _ ?_)
   refine wp_seq_k fun K68 hK68 => ?_
   refine zb ?_
   refine za (zd (v := (.pointer (some ⟨sb, 0, none⟩))) rfl ?_)
   refine za (zd (v := (.int .i64 ((svD d 0 h).1))) rfl ?_)
   have hH69 : Has E w66 [([Hp.one sb (.cells #[(.int .i64 ((svD d 0 h).2.1).seq), (.int .i64 ((svD d 0 h).2.1).ep), (.int .i64 ((svD d 0 h).2.1).cut), (.int .i64 ((svD d 0 h).2.1).st), (.int .i64 ((svD d 0 h).2.1).mrk), (.pointer (some ⟨db, 0, none⟩)), (.pointer (some ⟨ab, 0, none⟩)), x7, (.int .i64 v.tail), (.int .i64 v.flushed), (.int .i64 v.res), (.bool v.cut), (.int .i64 v.err)] 175 (0, 0))] ++ s8), [Hp.one b50 (.cells #[(.int .i64 ((svD d 0 h).2.1).seq), (.int .i64 ((svD d 0 h).2.1).ep), (.int .i64 ((svD d 0 h).2.1).cut), (.int .i64 ((svD d 0 h).2.1).st), (.int .i64 ((svD d 0 h).2.1).mrk)] 23 (0, 0))], sg54, [Hp.one pb (.cells #[(.bool ((svD d 0 h).2.2).p.off), (.bool ((svD d 0 h).2.2).p.armed), (.int .i64 ((svD d 0 h).2.2).p.left), (.int .i64 ((svD d 0 h).2.2).p.uses)] 145 (0, 0))], [Hp.one b2 (.cells #[(.int .i64 h.seq), (.int .i64 h.ep), (.int .i64 h.cut), (.int .i64 h.st), (.int .i64 h.mrk)] 23 (0, 0))], [Hp.one ab (.cells #[(.pointer (some ⟨db, 0, none⟩)), (.int .i64 2), (.int .i64 n)] 265 (0, 0))], R] := Has.cl2 ((hH67.front 4 rfl).front 1 rfl)
   have hd70 : StmAt db ab sb ([Hp.one sb (.cells #[(.int .i64 ((svD d 0 h).2.1).seq), (.int .i64 ((svD d 0 h).2.1).ep), (.int .i64 ((svD d 0 h).2.1).cut), (.int .i64 ((svD d 0 h).2.1).st), (.int .i64 ((svD d 0 h).2.1).mrk), (.pointer (some ⟨db, 0, none⟩)), (.pointer (some ⟨ab, 0, none⟩)), x7, (.int .i64 v.tail), (.int .i64 v.flushed), (.int .i64 v.res), (.bool v.cut), (.int .i64 v.err)] 175 (0, 0))] ++ s8) (⟨((svD d 0 h).2.1).seq, ((svD d 0 h).2.1).ep, ((svD d 0 h).2.1).cut, ((svD d 0 h).2.1).st, ((svD d 0 h).2.1).mrk, v.l, v.tail, v.flushed, v.res, v.cut, v.err⟩ : StmS) := StmAt.mk (v := (⟨((svD d 0 h).2.1).seq, ((svD d 0 h).2.1).ep, ((svD d 0 h).2.1).cut, ((svD d 0 h).2.1).st, ((svD d 0 h).2.1).mrk, v.l, v.tail, v.flushed, v.res, v.cut, v.err⟩ : StmS)) f9
   refine za (zk (vs := #[(.pointer (some ⟨sb, 0, none⟩)), (.int .i64 ((svD d 0 h).1))]) ca109 rfl (zI rfl rfl) (sstays_c (db := db) (ab := ab) (v := (⟨((svD d 0 h).2.1).seq, ((svD d 0 h).2.1).ep, ((svD d 0 h).2.1).cut, ((svD d 0 h).2.1).st, ((svD d 0 h).2.1).mrk, v.l, v.tail, v.flushed, v.res, v.cut, v.err⟩ : StmS)) (e_ := (svD d 0 h).1) hH69.all1 hd70) ?_)
   rintro _ w75 ⟨sg71, rfl, hd72, hX73⟩
   refine ⟨_, rfl, ?_⟩
   have hH74 : Has E w75 [sg71, [Hp.one b50 (.cells #[(.int .i64 ((svD d 0 h).2.1).seq), (.int .i64 ((svD d 0 h).2.1).ep), (.int .i64 ((svD d 0 h).2.1).cut), (.int .i64 ((svD d 0 h).2.1).st), (.int .i64 ((svD d 0 h).2.1).mrk)] 23 (0, 0))], sg54, [Hp.one pb (.cells #[(.bool ((svD d 0 h).2.2).p.off), (.bool ((svD d 0 h).2.2).p.armed), (.int .i64 ((svD d 0 h).2.2).p.left), (.int .i64 ((svD d 0 h).2.2).p.uses)] 145 (0, 0))], [Hp.one b2 (.cells #[(.int .i64 h.seq), (.int .i64 h.ep), (.int .i64 h.cut), (.int .i64 h.st), (.int .i64 h.mrk)] 23 (0, 0))], [Hp.one ab (.cells #[(.pointer (some ⟨db, 0, none⟩)), (.int .i64 2), (.int .i64 n)] 265 (0, 0))], R] := hX73.of_all1
   refine za (ze (v := (.int .i64 ((svD d 0 h).1))) rfl ?_)
   refine zf ?_
   refine zc (hK68 _ _ ?_)
   refine wp_ret ?_
   refine zq Tryz.results110  (v := (.int .i64 ((svD d 0 h).1))) rfl ?_
   have hH76 : Has E w75 [sg54, [Hp.one pb (.cells #[(.bool ((svD d 0 h).2.2).p.off), (.bool ((svD d 0 h).2.2).p.armed), (.int .i64 ((svD d 0 h).2.2).p.left), (.int .i64 ((svD d 0 h).2.2).p.uses)] 145 (0, 0))], [Hp.one ab (.cells #[(.pointer (some ⟨db, 0, none⟩)), (.int .i64 2), (.int .i64 n)] 265 (0, 0))], sg71, R] := (((((hH74.front 6 rfl).front 1 rfl).front 6 rfl).front 5 rfl).front 5 rfl).first 5 rfl
   have hE_ : (saveS d v h) = (((svD d 0 h).1), (svD d 0 h).2.2, (stays (⟨((svD d 0 h).2.1).seq, ((svD d 0 h).2.1).ep, ((svD d 0 h).2.1).cut, ((svD d 0 h).2.1).st, ((svD d 0 h).2.1).mrk, v.l, v.tail, v.flushed, v.res, v.cut, v.err⟩ : StmS) ((svD d 0 h).1))) := by
    unfold saveS; rw [if_pos h65]; rfl
   exact ⟨_, _, by rw [hE_], by rw [hE_]; exact hd55, by rw [hE_]; exact hd72, by rw [hE_]; exact hH76⟩
  ·
   refine wp_skip ?_
   refine zc (hK63 _ _ ?_)
   refine wp_seq_k fun K77 hK77 => ?_
   refine zb ?_
   refine za (zd (v := (.pointer (some ⟨sb, 0, none⟩))) rfl ?_)
   refine za (zd (v := (.int .i64 ((svD d 0 h).1))) rfl ?_)
   have hH78 : Has E w60 [([Hp.one sb (.cells #[(.int .i64 v.seq), (.int .i64 v.ep), (.int .i64 v.hcut), (.int .i64 v.st), (.int .i64 v.mrk), (.pointer (some ⟨db, 0, none⟩)), (.pointer (some ⟨ab, 0, none⟩)), x7, (.int .i64 v.tail), (.int .i64 v.flushed), (.int .i64 v.res), (.bool v.cut), (.int .i64 v.err)] 175 (0, 0))] ++ s8), [Hp.one b50 (.cells #[(.int .i64 ((svD d 0 h).2.1).seq), (.int .i64 ((svD d 0 h).2.1).ep), (.int .i64 ((svD d 0 h).2.1).cut), (.int .i64 ((svD d 0 h).2.1).st), (.int .i64 ((svD d 0 h).2.1).mrk)] 23 (0, 0))], sg54, [Hp.one pb (.cells #[(.bool ((svD d 0 h).2.2).p.off), (.bool ((svD d 0 h).2.2).p.armed), (.int .i64 ((svD d 0 h).2.2).p.left), (.int .i64 ((svD d 0 h).2.2).p.uses)] 145 (0, 0))], [Hp.one b2 (.cells #[(.int .i64 h.seq), (.int .i64 h.ep), (.int .i64 h.cut), (.int .i64 h.st), (.int .i64 h.mrk)] 23 (0, 0))], [Hp.one ab (.cells #[(.pointer (some ⟨db, 0, none⟩)), (.int .i64 2), (.int .i64 n)] 265 (0, 0))], R] := Has.cl2 ((hH61.front 4 rfl).front 4 rfl)
   have hd79 : StmAt db ab sb ([Hp.one sb (.cells #[(.int .i64 v.seq), (.int .i64 v.ep), (.int .i64 v.hcut), (.int .i64 v.st), (.int .i64 v.mrk), (.pointer (some ⟨db, 0, none⟩)), (.pointer (some ⟨ab, 0, none⟩)), x7, (.int .i64 v.tail), (.int .i64 v.flushed), (.int .i64 v.res), (.bool v.cut), (.int .i64 v.err)] 175 (0, 0))] ++ s8) v := StmAt.mk (v := v) f9
   refine za (zk (vs := #[(.pointer (some ⟨sb, 0, none⟩)), (.int .i64 ((svD d 0 h).1))]) ca109 rfl (zI rfl rfl) (sstays_c (db := db) (ab := ab) (v := v) (e_ := (svD d 0 h).1) hH78.all1 hd79) ?_)
   rintro _ w84 ⟨sg80, rfl, hd81, hX82⟩
   refine ⟨_, rfl, ?_⟩
   have hH83 : Has E w84 [sg80, [Hp.one b50 (.cells #[(.int .i64 ((svD d 0 h).2.1).seq), (.int .i64 ((svD d 0 h).2.1).ep), (.int .i64 ((svD d 0 h).2.1).cut), (.int .i64 ((svD d 0 h).2.1).st), (.int .i64 ((svD d 0 h).2.1).mrk)] 23 (0, 0))], sg54, [Hp.one pb (.cells #[(.bool ((svD d 0 h).2.2).p.off), (.bool ((svD d 0 h).2.2).p.armed), (.int .i64 ((svD d 0 h).2.2).p.left), (.int .i64 ((svD d 0 h).2.2).p.uses)] 145 (0, 0))], [Hp.one b2 (.cells #[(.int .i64 h.seq), (.int .i64 h.ep), (.int .i64 h.cut), (.int .i64 h.st), (.int .i64 h.mrk)] 23 (0, 0))], [Hp.one ab (.cells #[(.pointer (some ⟨db, 0, none⟩)), (.int .i64 2), (.int .i64 n)] 265 (0, 0))], R] := hX82.of_all1
   refine za (ze (v := (.int .i64 ((svD d 0 h).1))) rfl ?_)
   refine zf ?_
   refine zc (hK77 _ _ ?_)
   refine wp_ret ?_
   refine zq Tryz.results110  (v := (.int .i64 ((svD d 0 h).1))) rfl ?_
   have hH85 : Has E w84 [sg54, [Hp.one pb (.cells #[(.bool ((svD d 0 h).2.2).p.off), (.bool ((svD d 0 h).2.2).p.armed), (.int .i64 ((svD d 0 h).2.2).p.left), (.int .i64 ((svD d 0 h).2.2).p.uses)] 145 (0, 0))], [Hp.one ab (.cells #[(.pointer (some ⟨db, 0, none⟩)), (.int .i64 2), (.int .i64 n)] 265 (0, 0))], sg80, R] := (((((hH83.front 6 rfl).front 1 rfl).front 6 rfl).front 5 rfl).front 5 rfl).first 5 rfl
   have hE_ : (saveS d v h) = (((svD d 0 h).1), (svD d 0 h).2.2, (stays v ((svD d 0 h).1))) := by
    unfold saveS; rw [if_neg h65]
   exact ⟨_, _, by rw [hE_], by rw [hE_]; exact hd55, by rw [hE_]; exact hd81, by rw [hE_]; exact hH85⟩
end Go.Q
namespace Go.Q
open Go.Proofs
set_option linter.unusedVariables false
set_option maxRecDepth 100000
attribute [local irreducible] wpList OK Code.wp
end Go.Q
namespace Go.Q
open Go.Proofs
set_option linter.unusedVariables false
set_option maxRecDepth 100000
attribute [local irreducible] wpList OK Code.wp
end Go.Q
namespace Go.Q
open Go.Proofs
set_option linter.unusedVariables false
set_option maxRecDepth 100000
attribute [local irreducible] wpList OK Code.wp
end Go.Q
namespace Go.Q
open Go.Proofs
set_option linter.unusedVariables false
set_option maxRecDepth 100000
attribute [local irreducible] wpList OK Code.wp
set_option maxHeartbeats 4000000 in
theorem anew_c {E w : World} {R sg : List Hp} {db pb : Nat} {p : Pw} {la : List Bs} {lo : List (Int × Bs)} (hH : Has E w [sg, [Hp.one pb (.cells #[(.bool p.off), (.bool p.armed), (.int .i64 p.left), (.int .i64 p.uses)] 145 (0, 0))], R]) (hd : DevAt pb sg db la lo) {fr n : Int} (hfr : 0 ≤ fr) (hn : 1 ≤ n) (hfn : fr + n ≤ la.length) (hla : la.length ≤ 4096) :
  Calls Tryz.prog 268 #[(.pointer (some ⟨db, 0, none⟩)), (.int .i64 fr), (.int .i64 n)] w fun e w' => ∃ ab, e = .returned (.pointer (some ⟨ab, 0, none⟩)) ∧ Has E w' [[Hp.one ab (.cells #[(.pointer (some ⟨db, 0, none⟩)), (.int .i64 fr), (.int .i64 n)] 265 (0, 0))], sg, [Hp.one pb (.cells #[(.bool p.off), (.bool p.armed), (.int .i64 p.left), (.int .i64 p.uses)] 145 (0, 0))], R] := by
 refine zs (args := [(.pointer (some ⟨db, 0, none⟩)), (.int .i64 fr), (.int .i64 n)]) Tryz.func268 rfl Tryz.ntmps268 (by simp) ?_
 refine wp_seq_k fun K1 hK1 => ?_
 refine zb ?_
 refine za (ze (v := (.pointer none)) rfl ?_)
 refine zf ?_
 refine zc (hK1 _ _ ?_)
 refine wp_seq_k fun K2 hK2 => ?_
 refine wp_seq_k fun K3 hK3 => ?_
 refine zb ?_
 refine za (zd (v := (.int .i64 fr)) rfl ?_)
 refine za (zL (a := fr) (b := 0) rfl rfl ?_)
 refine za (zd (v := (.bool (decide (fr < 0)))) rfl ?_)
 by_cases h4 : fr < 0
 ·
  exfalso; omega
 ·
  refine zn 9 rfl (cF h4) (zd (v := (.int .i64 n)) rfl ?_)
  refine zn 9 rfl (cF h4) (zL (a := n) (b := 1) rfl rfl ?_)
  refine za (zm (u := (.bool (decide (n < 1)))) ((rfl : _ = _).trans (cF h4)) rfl ?_)
  refine za (zd (v := (.bool (decide (n < 1)))) rfl ?_)
  by_cases h5 : n < 1
  ·
   exfalso; omega
  ·
   refine zn 13 rfl (cF h5) (zd (v := (.int .i64 n)) rfl ?_)
   refine zn 13 rfl (cF h5) (zd (v := (.pointer (some ⟨db, 0, none⟩))) rfl ?_)
   refine zn 13 rfl (cF h5) (zk (vs := #[(.pointer (some ⟨db, 0, none⟩))]) ca85 rfl (zF rfl) (sectors_d (p := p) (la := la) (lo := lo) ((hH.front 1 rfl).front 1 rfl).all2 hd ) ?_)
   rintro _ w8 ⟨rfl, hX6⟩
   refine ⟨_, rfl, ?_⟩
   have hH7 : Has E w8 [sg, [Hp.one pb (.cells #[(.bool p.off), (.bool p.armed), (.int .i64 p.left), (.int .i64 p.uses)] 145 (0, 0))], R] := hX6.of_all2
   refine zn 13 rfl (cF h5) (o_gtr (a := n) (b := ((la.length : Nat) : Int)) rfl rfl ?_)
   refine za (zm (u := (.bool (decide (((la.length : Nat) : Int) < n)))) ((rfl : _ = _).trans (cF h5)) rfl ?_)
   refine za (zd (v := (.bool (decide (((la.length : Nat) : Int) < n)))) rfl ?_)
   by_cases h9 : ((la.length : Nat) : Int) < n
   ·
    exfalso; omega
   ·
    refine zn 19 rfl (cF h9) (zd (v := (.int .i64 fr)) rfl ?_)
    refine zn 19 rfl (cF h9) (zd (v := (.pointer (some ⟨db, 0, none⟩))) rfl ?_)
    refine zn 19 rfl (cF h9) (zk (vs := #[(.pointer (some ⟨db, 0, none⟩))]) ca85 rfl (zF rfl) (sectors_d (p := p) (la := la) (lo := lo) ((hH7.front 1 rfl).front 1 rfl).all2 hd ) ?_)
    rintro _ w12 ⟨rfl, hX10⟩
    refine ⟨_, rfl, ?_⟩
    have hH11 : Has E w12 [sg, [Hp.one pb (.cells #[(.bool p.off), (.bool p.armed), (.int .i64 p.left), (.int .i64 p.uses)] 145 (0, 0))], R] := hX10.of_all2
    refine zn 19 rfl (cF h9) (zd (v := (.int .i64 n)) rfl ?_)
    refine zn 19 rfl (cF h9) (o_sub (a := ((la.length : Nat) : Int)) (b := n) rfl rfl (w64 (by omega) (by omega)) ?_)
    refine zn 19 rfl (cF h9) (o_gtr (a := fr) (b := ((la.length : Nat) : Int) - n) rfl rfl ?_)
    refine za (zm (u := (.bool (decide (((la.length : Nat) : Int) - n < fr)))) ((rfl : _ = _).trans (cF h9)) rfl ?_)
    refine zf ?_
    refine zc (hK3 _ _ ?_)
    refine zt rfl (fun h13 => ?_) (fun h13 => ?_)
    ·
     exfalso; omega
    ·
     refine wp_skip ?_
     refine zc (hK2 _ _ ?_)
     refine wp_seq_k fun K14 hK14 => ?_
     refine zb ?_
     refine za (zd (v := (.pointer (some ⟨db, 0, none⟩))) rfl ?_)
     refine za (zd (v := (.int .i64 fr)) rfl ?_)
     refine za (zd (v := (.int .i64 n)) rfl ?_)
     refine za (zK (v := (.agg #[(.pointer (some ⟨db, 0, none⟩)), (.int .i64 fr), (.int .i64 n)])) (fun _ => by kernel_rfl) ?_)
     refine za (o_box (cs := #[(.pointer (some ⟨db, 0, none⟩)), (.int .i64 fr), (.int .i64 n)]) rfl rfl hH11 fun b15 w16 hH17 => ?_)
     refine za (ze (v := (.pointer (some ⟨b15, 0, none⟩))) rfl ?_)
     refine zf ?_
     refine zc (hK14 _ _ ?_)
     refine wp_ret ?_
     refine zq Tryz.results268  (v := (.pointer (some ⟨b15, 0, none⟩))) rfl ?_
     exact ⟨_, rfl, hH17⟩
end Go.Q
namespace Go.Q
open Go.Proofs Go.Shelf
set_option maxRecDepth 100000
def trl_ren : Go.Shelf.Ren := ⟨fun | 160 => 189 | 232 => 270 | 231 => 269 | 227 => 271 | 234 => 273 | 233 => 272 | 236 => 275 | 235 => 274 | 228 => 328 | 271 => 331 | 151 => 330 | 197 => 329 | 120 => 367 | 152 => 366 | 260 => 365 | 137 => 392 | 119 => 393 | 224 => 394 | 225 => 395 | 217 => 404 | 266 => 410 | n => n, fun | 9 => 9 | 4 => 4 | 3 => 3 | 5 => 5 | 117 => 363 | 116 => 362 | 0 => 0 | 124 => 366 | 21 => 21 | 105 => 413 | 46 => 65 | 119 => 477 | 139 => 480 | 138 => 479 | n => n, fun | 3 => 2 | 4 => 3 | n => n⟩
theorem trl : Go.Proofs.Lays.n160 Tryz.prog trl_ren := {
 mixed := by kernel_rfl
 f119 := Tryz.func393.trans (congrArg some (by kernel_rfl))
 f120 := Tryz.func367.trans (congrArg some (by kernel_rfl))
 f137 := Tryz.func392.trans (congrArg some (by kernel_rfl))
 f151 := Tryz.func330.trans (congrArg some (by kernel_rfl))
 f152 := Tryz.func366.trans (congrArg some (by kernel_rfl))
 f160 := Tryz.func189.trans (congrArg some (by kernel_rfl))
 f197 := Tryz.func329.trans (congrArg some (by kernel_rfl))
 f217 := Tryz.func404.trans (congrArg some (by kernel_rfl))
 f224 := Tryz.func394.trans (congrArg some (by kernel_rfl))
 f225 := Tryz.func395.trans (congrArg some (by kernel_rfl))
 f227 := Tryz.func271.trans (congrArg some (by kernel_rfl))
 f228 := Tryz.func328.trans (congrArg some (by kernel_rfl))
 f231 := Tryz.func269.trans (congrArg some (by kernel_rfl))
 f232 := Tryz.func270.trans (congrArg some (by kernel_rfl))
 f233 := Tryz.func272.trans (congrArg some (by kernel_rfl))
 f234 := Tryz.func273.trans (congrArg some (by kernel_rfl))
 f235 := Tryz.func274.trans (congrArg some (by kernel_rfl))
 f236 := Tryz.func275.trans (congrArg some (by kernel_rfl))
 f260 := Tryz.func365.trans (congrArg some (by kernel_rfl))
 f266 := Tryz.func410.trans (congrArg some (by kernel_rfl))
 f271 := Tryz.func331.trans (congrArg some (by kernel_rfl))
 t0 := Tryz.underlying0
 a0 := Tryz.isAgg0
 z0 := Tryz.sizeOf0
 v0 := Tryz.zeroValue0
 t3 := Tryz.underlying3
 a3 := Tryz.isAgg3
 z3 := Tryz.sizeOf3
 v3 := Tryz.zeroValue3
 t4 := Tryz.underlying4
 a4 := Tryz.isAgg4
 z4 := Tryz.sizeOf4
 v4 := Tryz.zeroValue4
 t5 := Tryz.underlying5
 a5 := Tryz.isAgg5
 z5 := Tryz.sizeOf5
 v5 := Tryz.zeroValue5
 t9 := Tryz.underlying9
 a9 := Tryz.isAgg9
 z9 := Tryz.sizeOf9
 v9 := Tryz.zeroValue9
 t21 := Tryz.underlying21
 a21 := Tryz.isAgg21
 z21 := Tryz.sizeOf21
 v21 := Tryz.zeroValue21
 t46 := Tryz.underlying65
 a46 := Tryz.isAgg65
 z46 := Tryz.sizeOf65
 v46 := Tryz.zeroValue65
 t105 := Tryz.underlying413
 a105 := Tryz.isAgg413
 z105 := Tryz.sizeOf413
 v105 := Tryz.zeroValue413
 t116 := Tryz.underlying362
 a116 := Tryz.isAgg362
 z116 := Tryz.sizeOf362
 t117 := Tryz.underlying363
 a117 := Tryz.isAgg363
 z117 := Tryz.sizeOf363
 v117 := Tryz.zeroValue363
 t119 := Tryz.underlying477
 a119 := Tryz.isAgg477
 z119 := Tryz.sizeOf477
 t124 := Tryz.underlying366
 a124 := Tryz.isAgg366
 z124 := Tryz.sizeOf366
 v124 := Tryz.zeroValue366
 t138 := Tryz.underlying479
 a138 := Tryz.isAgg479
 z138 := Tryz.sizeOf479
 v138 := Tryz.zeroValue479
 t139 := Tryz.underlying480
 a139 := Tryz.isAgg480
 z139 := Tryz.sizeOf480
 v139 := Tryz.zeroValue480
 g3 := by kernel_rfl
 g4 := by kernel_rfl }

theorem strim_c {E w : World} {R : List Hp} (hH : Has E w [R]) (s : Bs) (hs : s.length ≤ 1000000) : Calls Tryz.prog 189 #[S s, S [0]] w fun e w' => e = .returned (S (Lib.trimB s 0)) ∧ Has E w' [R] := by
 refine (Any.strings_Trim_one trl ⟨s.toArray⟩ 0 (by decide) w (by simp only [ByteArray.size, List.size_toArray]; omega)).mono fun e w' h => ?_
 obtain ⟨h1, h2⟩ := h
 refine ⟨by rw [h1]; rfl, ?_⟩
 rcases h2 with h2 | h2
 · rw [h2]; exact hH
 · rw [h2]; exact Has0.drew hH _
theorem dropZ {s : Bs} : s.dropWhile (· == 0) = [] ↔ ∀ b ∈ s, b = 0 := by
 induction s with
 | nil => simp
 | cons x t ih =>
  rw [List.dropWhile_cons]
  by_cases h : x = 0
  · rw [if_pos (by simpa using h), ih]; simp [h]
  · rw [if_neg (by simpa using h)]; simp [h]
theorem trim_zero {s : Bs} : Lib.trimB s 0 = [] ↔ s = List.replicate s.length 0 := by
 unfold Lib.trimB Lib.trimLeftB Lib.trimRightB
 rw [dropZ, List.eq_replicate_iff]
 constructor
 ·
  intro h
  refine ⟨rfl, ?_⟩
  have h1 : ∀ b ∈ s.reverse.dropWhile (· == 0), b = 0 := fun b hb => h b (List.mem_reverse.2 hb)
  have h2 : s.reverse.dropWhile (· == 0) = [] := by
   cases e : s.reverse.dropWhile (· == 0) with
   | nil => rfl
   | cons x t =>
    have hx := h1 x (by rw [e]; exact List.mem_cons_self ..)
    have hn := List.head?_dropWhile_not (fun b : UInt8 => b == 0) s.reverse
    rw [e] at hn
    simp [hx] at hn
  intro b hb
  exact dropZ.1 h2 b (List.mem_reverse.2 hb)
 ·
  rintro ⟨_, h⟩ b hb
  have := (List.dropWhile_sublist _).subset (List.mem_reverse.1 hb)
  exact h b (List.mem_reverse.1 this)
end Go.Q
namespace Go.Q
open Go.Proofs
set_option linter.unusedVariables false
set_option maxRecDepth 100000
attribute [local irreducible] wpList OK Code.wp
end Go.Q
namespace Go.Q
open Go.Proofs
set_option linter.unusedVariables false
set_option maxRecDepth 100000
attribute [local irreducible] wpList OK Code.wp
set_option maxHeartbeats 4000000 in
theorem sring_ok {E w : World} {R sg : List Hp} {pb db : Nat} {d : Dv} (hH : Has E w [sg, [Hp.one pb (.cells #[(.bool d.p.off), (.bool d.p.armed), (.int .i64 d.p.left), (.int .i64 d.p.uses)] 145 (0, 0))], R]) (hd : DevAt pb sg db d.la d.lo) (h4 : d.la.length ≤ 4096) (h3 : 3 ≤ d.la.length) :
  Calls Tryz.prog 185 #[(.pointer (some ⟨db, 0, none⟩))] w fun e w' => ∃ ab, e = .returned (.tuple #[.pointer (some ⟨ab, 0, none⟩), .bool true]) ∧ Has E w' [[Hp.one ab (.cells #[(.pointer (some ⟨db, 0, none⟩)), (.int .i64 2), (.int .i64 (((d.la.length : Nat) : Int) - 2))] 265 (0, 0))], sg, [Hp.one pb (.cells #[(.bool d.p.off), (.bool d.p.armed), (.int .i64 d.p.left), (.int .i64 d.p.uses)] 145 (0, 0))], R] := by
 refine zs (args := [(.pointer (some ⟨db, 0, none⟩))]) Tryz.func185 rfl Tryz.ntmps185 (by simp) ?_
 refine wp_seq_k fun K1 hK1 => ?_
 refine zb ?_
 refine za (ze (v := (.pointer none)) rfl ?_)
 refine za (ze (v := (.bool false)) rfl ?_)
 refine zf ?_
 refine zc (hK1 _ _ ?_)
 refine wp_seq_k fun K2 hK2 => ?_
 refine zb ?_
 refine za (zd (v := (.pointer (some ⟨db, 0, none⟩))) rfl ?_)
 refine za (zd (v := (.pointer (some ⟨db, 0, none⟩))) rfl ?_)
 refine za (zk (vs := #[(.pointer (some ⟨db, 0, none⟩))]) ca85 rfl (zF rfl) (sectors_d (p := d.p) (la := d.la) (lo := d.lo) ((hH.front 1 rfl).front 1 rfl).all2 hd ) ?_)
 rintro _ w5 ⟨rfl, hX3⟩
 refine ⟨_, rfl, ?_⟩
 have hH4 : Has E w5 [sg, [Hp.one pb (.cells #[(.bool d.p.off), (.bool d.p.armed), (.int .i64 d.p.left), (.int .i64 d.p.uses)] 145 (0, 0))], R] := hX3.of_all2
 refine za (o_sub (a := ((d.la.length : Nat) : Int)) (b := 2) rfl rfl (w64 (by omega) (by omega)) ?_)
 refine za (zk (vs := #[(.pointer (some ⟨db, 0, none⟩)), (.int .i64 2), (.int .i64 (((d.la.length : Nat) : Int) - 2))]) ca268 rfl (args3 rfl rfl rfl) (anew_c ((hH4.front 1 rfl).front 1 rfl).all2 hd (by omega) (by omega) (by omega) h4) ?_)
 rintro _ w9 ⟨ab6, rfl, hX7⟩
 refine ⟨_, rfl, ?_⟩
 have hH8 : Has E w9 [[Hp.one ab6 (.cells #[(.pointer (some ⟨db, 0, none⟩)), (.int .i64 2), (.int .i64 (((d.la.length : Nat) : Int) - 2))] 265 (0, 0))], sg, [Hp.one pb (.cells #[(.bool d.p.off), (.bool d.p.armed), (.int .i64 d.p.left), (.int .i64 d.p.uses)] 145 (0, 0))], R] := hX7.of_all3
 refine za (ze (v := (.pointer (some ⟨ab6, 0, none⟩))) rfl ?_)
 refine zf ?_
 refine zc (hK2 _ _ ?_)
 refine wp_seq_k fun K10 hK10 => ?_
 refine zb ?_
 refine za (zd (v := (.pointer (some ⟨ab6, 0, none⟩))) rfl ?_)
 refine za (zd (v := (.pointer (some ⟨ab6, 0, none⟩))) rfl ?_)
 refine za (o_pnnil (p := some _) Tryz.underlying160 rfl rfl ?_)
 refine za (ze (v := (.pointer (some ⟨ab6, 0, none⟩))) rfl ?_)
 refine za (ze (v := (.bool true)) rfl ?_)
 refine zf ?_
 refine zc (hK10 _ _ ?_)
 refine wp_ret ?_
 refine zV Tryz.results185  (v := (.pointer (some ⟨ab6, 0, none⟩))) rfl (x := (.bool true)) rfl ?_
 exact ⟨_, rfl, hH8⟩
set_option maxHeartbeats 4000000 in
theorem sbegin_ok {E w : World} {R sg : List Hp} {pb db : Nat} {d : Dv} (hH : Has E w [sg, [Hp.one pb (.cells #[(.bool d.p.off), (.bool d.p.armed), (.int .i64 d.p.left), (.int .i64 d.p.uses)] 145 (0, 0))], R]) (hd : DevAt pb sg db d.la d.lo) (h4 : d.la.length ≤ 4096) (h3 : 3 ≤ d.la.length) (hon : d.p.off = false) :
  Calls Tryz.prog 96 #[(.pointer (some ⟨db, 0, none⟩))] w fun e w' => ∃ ab, e = .returned (.tuple #[.pointer (some ⟨ab, 0, none⟩), .int .i64 0]) ∧ Has E w' [[Hp.one ab (.cells #[(.pointer (some ⟨db, 0, none⟩)), (.int .i64 2), (.int .i64 (((d.la.length : Nat) : Int) - 2))] 265 (0, 0))], sg, [Hp.one pb (.cells #[(.bool d.p.off), (.bool d.p.armed), (.int .i64 d.p.left), (.int .i64 d.p.uses)] 145 (0, 0))], R] := by
 refine zs (args := [(.pointer (some ⟨db, 0, none⟩))]) Tryz.func96 rfl Tryz.ntmps96 (by simp) ?_
 refine wp_seq_k fun K1 hK1 => ?_
 refine zb ?_
 refine za (ze (v := (.pointer none)) rfl ?_)
 refine za (ze (v := (.int .i64 0)) rfl ?_)
 refine zf ?_
 refine zc (hK1 _ _ ?_)
 refine wp_seq_k fun K2 hK2 => ?_
 refine zb ?_
 refine za (zd (v := (.pointer (some ⟨db, 0, none⟩))) rfl ?_)
 refine za (zk (vs := #[(.pointer (some ⟨db, 0, none⟩))]) ca185 rfl (zF rfl) (sring_ok ((hH.front 1 rfl).front 1 rfl).all2 hd h4 h3) ?_)
 rintro _ w6 ⟨ab3, rfl, hX4⟩
 refine ⟨_, rfl, ?_⟩
 have hH5 : Has E w6 [[Hp.one ab3 (.cells #[(.pointer (some ⟨db, 0, none⟩)), (.int .i64 2), (.int .i64 (((d.la.length : Nat) : Int) - 2))] 265 (0, 0))], sg, [Hp.one pb (.cells #[(.bool d.p.off), (.bool d.p.armed), (.int .i64 d.p.left), (.int .i64 d.p.uses)] 145 (0, 0))], R] := hX4.of_all3
 refine za (zd (v := (.tuple #[(.pointer (some ⟨ab3, 0, none⟩)), (.bool true)])) rfl ?_)
 refine za (zp (v := (.pointer (some ⟨ab3, 0, none⟩))) rfl rfl ?_)
 refine za (zp (v := (.bool true)) rfl rfl ?_)
 refine za (ze (v := (.pointer (some ⟨ab3, 0, none⟩))) rfl ?_)
 refine za (ze (v := (.bool true)) rfl ?_)
 refine zf ?_
 refine zc (hK2 _ _ ?_)
 refine wp_seq_k fun K7 hK7 => ?_
 refine wp_block ?_
 refine wp_seq_k fun K8 hK8 => ?_
 refine zb ?_
 refine za (zd (v := (.bool true)) rfl ?_)
 refine za (o_not rfl ?_)
 refine za (ze (v := (.bool false)) rfl ?_)
 refine zf ?_
 refine zc (hK8 _ _ ?_)
 refine zS rfl rfl ?_
 refine wp_seq_k fun K9 hK9 => ?_
 refine zb ?_
 refine za (zd (v := (.pointer (some ⟨db, 0, none⟩))) rfl ?_)
 refine za (zk (vs := #[(.pointer (some ⟨db, 0, none⟩))]) ca186 rfl (zF rfl) (don_d (p := d.p) (la := d.la) (lo := d.lo) ((hH5.front 2 rfl).front 2 rfl).all2 hd ) ?_)
 rintro _ w12 ⟨rfl, hX10⟩
 refine ⟨_, rfl, ?_⟩
 have hH11 : Has E w12 [sg, [Hp.one pb (.cells #[(.bool d.p.off), (.bool d.p.armed), (.int .i64 d.p.left), (.int .i64 d.p.uses)] 145 (0, 0))], [Hp.one ab3 (.cells #[(.pointer (some ⟨db, 0, none⟩)), (.int .i64 2), (.int .i64 (((d.la.length : Nat) : Int) - 2))] 265 (0, 0))], R] := hX10.of_all2
 refine za (o_not rfl ?_)
 refine za (ze (v := (.bool (!(!d.p.off)))) rfl ?_)
 refine zf ?_
 refine zc (hK9 _ _ ?_)
 refine zX rfl (fun h13 => ?_) (fun h13 => ?_)
 ·
  have h13_n : (!d.p.off) = false := by first | simpa using h13 | exact Bool.of_not_eq_true (fun g_ => by rw [g_] at h13; cases h13)
  have h13_n_n : d.p.off = true := by first | simpa using h13_n | exact Bool.of_not_eq_false (fun g_ => by rw [g_] at h13_n; cases h13_n)
  exact absurd h13 (by rw [hon]; decide)
 ·
  have h13_n : (!d.p.off) = true := by first | simpa using h13 | exact Bool.of_not_eq_false (fun g_ => by rw [g_] at h13; cases h13)
  have h13_n_n : d.p.off = false := by first | simpa using h13_n | exact Bool.of_not_eq_true (fun g_ => by rw [g_] at h13_n; cases h13_n)
  refine wp_skip ?_
  refine zG ?_
  refine zc (hK7 _ _ ?_)
  refine wp_seq_k fun K14 hK14 => ?_
  refine zb ?_
  refine za (zd (v := (.pointer (some ⟨ab3, 0, none⟩))) rfl ?_)
  refine za (ze (v := (.pointer (some ⟨ab3, 0, none⟩))) rfl ?_)
  refine za (ze (v := (.int .i64 0)) rfl ?_)
  refine zf ?_
  refine zc (hK14 _ _ ?_)
  refine wp_ret ?_
  refine zV Tryz.results96  (v := (.pointer (some ⟨ab3, 0, none⟩))) rfl (x := (.int .i64 0)) rfl ?_
  have hH15 : Has E w12 [[Hp.one ab3 (.cells #[(.pointer (some ⟨db, 0, none⟩)), (.int .i64 2), (.int .i64 (((d.la.length : Nat) : Int) - 2))] 265 (0, 0))], sg, [Hp.one pb (.cells #[(.bool d.p.off), (.bool d.p.armed), (.int .i64 d.p.left), (.int .i64 d.p.uses)] 145 (0, 0))], R] := ((((hH11.front 3 rfl).front 2 rfl).front 2 rfl).front 3 rfl).first 4 rfl
  exact ⟨_, rfl, hH15⟩
end Go.Q
namespace Go.Q
open Go.Proofs
set_option linter.unusedVariables false
set_option maxRecDepth 100000
attribute [local irreducible] wpList OK Code.wp
set_option maxHeartbeats 4000000 in
theorem sformat_c {E w : World} {R sg : List Hp} {pb db : Nat} {d : Dv} (hH : Has E w [sg, [Hp.one pb (.cells #[(.bool d.p.off), (.bool d.p.armed), (.int .i64 d.p.left), (.int .i64 d.p.uses)] 145 (0, 0))], R]) (hd : DevAt pb sg db d.la d.lo) {k : Nat} (hf : Few d.p k) (hk : k ≤ 390000) (hlk : LoOk d.lo d.la.length) (h4 : d.la.length ≤ 4096) (h3 : 3 ≤ d.la.length) (hon : d.p.off = false) (hg : CellsAt R 0 0 nibV) (hm : (fmS d).1 = 0) :
  Calls Tryz.prog 31 #[(.pointer (some ⟨db, 0, none⟩))] w fun e w' => ∃ sb ab sg' ss, e = .returned (.tuple #[.pointer (some ⟨sb, 0, none⟩), .int .i64 0]) ∧ DevAt pb sg' db (fmS d).2.2.la (fmS d).2.2.lo ∧ StmAt db ab sb ss (fmV (fmS d).2.1) ∧ Has E w' [ss, [Hp.one ab (.cells #[(.pointer (some ⟨db, 0, none⟩)), (.int .i64 2), (.int .i64 (((d.la.length : Nat) : Int) - 2))] 265 (0, 0))], sg', [Hp.one pb (.cells #[(.bool ((fmS d).2.2).p.off), (.bool ((fmS d).2.2).p.armed), (.int .i64 ((fmS d).2.2).p.left), (.int .i64 ((fmS d).2.2).p.uses)] 145 (0, 0))], R] := by
 refine zs (args := [(.pointer (some ⟨db, 0, none⟩))]) Tryz.func31 rfl Tryz.ntmps31 (by simp) ?_
 refine wp_seq_k fun K1 hK1 => ?_
 refine zb ?_
 refine za (ze (v := (.pointer none)) rfl ?_)
 refine za (ze (v := (.int .i64 0)) rfl ?_)
 refine zf ?_
 refine zc (hK1 _ _ ?_)
 refine wp_seq_k fun K2 hK2 => ?_
 refine zb ?_
 refine za (zd (v := (.pointer (some ⟨db, 0, none⟩))) rfl ?_)
 refine za (zk (vs := #[(.pointer (some ⟨db, 0, none⟩))]) ca96 rfl (zF rfl) (sbegin_ok ((hH.front 1 rfl).front 1 rfl).all2 hd h4 h3 hon) ?_)
 rintro _ w6 ⟨ab3, rfl, hX4⟩
 refine ⟨_, rfl, ?_⟩
 have hH5 : Has E w6 [[Hp.one ab3 (.cells #[(.pointer (some ⟨db, 0, none⟩)), (.int .i64 2), (.int .i64 (((d.la.length : Nat) : Int) - 2))] 265 (0, 0))], sg, [Hp.one pb (.cells #[(.bool d.p.off), (.bool d.p.armed), (.int .i64 d.p.left), (.int .i64 d.p.uses)] 145 (0, 0))], R] := hX4.of_all3
 refine za (zd (v := (.tuple #[(.pointer (some ⟨ab3, 0, none⟩)), (.int .i64 (0 : Int))])) rfl ?_)
 refine za (zp (v := (.pointer (some ⟨ab3, 0, none⟩))) rfl rfl ?_)
 refine za (zp (v := (.int .i64 (0 : Int))) rfl rfl ?_)
 refine za (ze (v := (.pointer (some ⟨ab3, 0, none⟩))) rfl ?_)
 refine za (ze (v := (.int .i64 (0 : Int))) rfl ?_)
 refine zf ?_
 refine zc (hK2 _ _ ?_)
 refine wp_seq_k fun K7 hK7 => ?_
 refine wp_seq_k fun K8 hK8 => ?_
 refine zb ?_
 refine za (zd (v := (.int .i64 (0 : Int))) rfl ?_)
 refine za (o_neq (a := (0 : Int)) (b := 0) rfl rfl ?_)
 refine zf ?_
 refine zc (hK8 _ _ ?_)
 refine zt rfl (fun h9 => ?_) (fun h9 => ?_)
 ·
  exact absurd h9 (by decide)
 ·
  refine wp_skip ?_
  refine zc (hK7 _ _ ?_)
  refine wp_seq_k fun K10 hK10 => ?_
  refine wp_seq_k fun K11 hK11 => ?_
  refine zb ?_
  refine za (zd (v := (.pointer (some ⟨db, 0, none⟩))) rfl ?_)
  refine za (zk (vs := #[(.pointer (some ⟨db, 0, none⟩))]) ca85 rfl (zF rfl) (sectors_d (p := d.p) (la := d.la) (lo := d.lo) ((hH5.front 2 rfl).front 2 rfl).all2 hd ) ?_)
  rintro _ w14 ⟨rfl, hX12⟩
  refine ⟨_, rfl, ?_⟩
  have hH13 : Has E w14 [sg, [Hp.one pb (.cells #[(.bool d.p.off), (.bool d.p.armed), (.int .i64 d.p.left), (.int .i64 d.p.uses)] 145 (0, 0))], [Hp.one ab3 (.cells #[(.pointer (some ⟨db, 0, none⟩)), (.int .i64 2), (.int .i64 (((d.la.length : Nat) : Int) - 2))] 265 (0, 0))], R] := hX12.of_all2
  refine za (zd (v := (.int .i64 0)) rfl ?_)
  refine zf ?_
  refine zc (hK11 _ _ ?_)
  refine wp_block ?_
  let I16 : Nat → (Nat → Value) → World → Prop := fun n__ r__ w__ => ∃ (i : Nat) (dc : Dv) (sgc : List Hp), n__ = d.la.length - i ∧ Has E w__ [sgc, [Hp.one pb (.cells #[(.bool dc.p.off), (.bool dc.p.armed), (.int .i64 dc.p.left), (.int .i64 dc.p.uses)] 145 (0, 0))], [Hp.one ab3 (.cells #[(.pointer (some ⟨db, 0, none⟩)), (.int .i64 2), (.int .i64 (((d.la.length : Nat) : Int) - 2))] 265 (0, 0))], R] ∧ (i ≤ d.la.length) ∧ (DevAt pb sgc db dc.la dc.lo) ∧ (Few dc.p (k + i)) ∧ (dc.la.length = d.la.length) ∧ (LoOk dc.lo dc.la.length) ∧ (wrs d (fmtG d.la.length) = wrs dc ((fmtG d.la.length).drop i)) ∧ r__ 0 = (.pointer (some ⟨db, 0, none⟩)) ∧ r__ 4 = (.pointer (some ⟨ab3, 0, none⟩)) ∧ r__ 5 = (.int .i64 (0 : Int)) ∧ r__ 15 = (.bool (decide ((0 : Int) ≠ 0))) ∧ r__ 18 = (.int .i64 ((d.la.length : Nat) : Int)) ∧ r__ 19 = (.int .i64 (i : Int))
  refine zT I16 _ ⟨0, d, sg, rfl, hH13, Nat.zero_le _, hd, hf, rfl, hlk, rfl, rfl, rfl, rfl, rfl, rfl, rfl⟩ ?_
  rintro n_ r19 w17 ⟨i, dc, sgc, rfl, hH18, hi, hdc, hfc, hnc, hlc, hst, e15_0, e15_4, e15_5, e15_15, e15_18, e15_19⟩
  refine wp_seq_k fun K20 hK20 => ?_
  refine zb ?_
  refine za (zL (a := (i : Int)) (b := ((d.la.length : Nat) : Int)) e15_19 e15_18 ?_)
  refine zf ?_
  refine zc (hK20 _ _ ?_)
  refine wp_seq_k fun K21 hK21 => ?_
  refine zt rfl (fun h22 => ?_) (fun h22 => ?_)
  ·
   refine wp_skip ?_
   refine zc (hK21 _ _ ?_)
   refine wp_seq_k fun K23 hK23 => ?_
   refine wp_block ?_
   refine wp_seq_k fun K24 hK24 => ?_
   refine zb ?_
   refine za (zd (v := (.int .i64 (i : Int))) e15_19 ?_)
   refine za (ze (v := (.int .i64 (i : Int))) rfl ?_)
   refine zf ?_
   refine zc (hK24 _ _ ?_)
   refine wp_seq_k fun K25 hK25 => ?_
   refine zb ?_
   refine za (zd (v := (.pointer (some ⟨db, 0, none⟩))) e15_0 ?_)
   refine za (zd (v := (.int .i64 (i : Int))) rfl ?_)
   refine za (zk (vs := #[(.pointer (some ⟨db, 0, none⟩)), (.int .i64 (i : Int)), (.slice none 0 0)]) ca122 rfl (args3 rfl rfl rfl) (dv_wr (d := dc) ((hH18.front 1 rfl).front 1 rfl).all2 hdc (hfc.ok (by omega)) (by rw [hnc]; exact h4) (i : Int) (l := ([] : List Bs)) (sl_nil 1) (s := ([] : Bs)) rfl (by simp) (by simp)) ?_)
   rintro _ w30 ⟨sg26, rfl, hd27, hX28⟩
   refine ⟨_, rfl, ?_⟩
   have hH29 : Has E w30 [sg26, [Hp.one pb (.cells #[(.bool (dc.wr (i : Int) ([] : Bs)).p.off), (.bool (dc.wr (i : Int) ([] : Bs)).p.armed), (.int .i64 (dc.wr (i : Int) ([] : Bs)).p.left), (.int .i64 (dc.wr (i : Int) ([] : Bs)).p.uses)] 145 (0, 0))], [Hp.one ab3 (.cells #[(.pointer (some ⟨db, 0, none⟩)), (.int .i64 2), (.int .i64 (((d.la.length : Nat) : Int) - 2))] 265 (0, 0))], R] := hX28.of_all2
   refine za (ze (v := (.int .i64 (dc.wrE (i : Int) ([] : Bs)))) rfl ?_)
   refine zf ?_
   refine zc (hK25 _ _ ?_)
   refine wp_seq_k fun K31 hK31 => ?_
   refine zb ?_
   refine za (zd (v := (.int .i64 (dc.wrE (i : Int) ([] : Bs)))) rfl ?_)
   refine za (o_neq (a := dc.wrE (i : Int) ([] : Bs)) (b := 0) rfl rfl ?_)
   refine zf ?_
   refine zc (hK31 _ _ ?_)
   refine zt rfl (fun h32 => ?_) (fun h32 => ?_)
   ·
    have hr_ := wrs_stop (fmtG_at (by omega)) hst h32
    exact absurd hm (by unfold fmS; rw [hr_, if_pos (show (dc.wrE (i : Int) []) ≠ 0 from h32)]; exact h32)
   ·
    refine wp_skip ?_
    refine zG ?_
    refine zc (hK23 _ _ ?_)
    refine zb ?_
    refine za (zH (a := (i : Int)) (b := 1) e15_19 rfl (w64 (by omega) (by omega)) ?_)
    refine za (zd (v := (.int .i64 ((i : Int) + 1))) rfl ?_)
    refine zf ?_
    refine zc ⟨d.la.length - (i + 1), _, rfl, ?_, ?_⟩
    · omega
    · exact ⟨(i + 1), (dc.wr (i : Int) ([] : Bs)), sg26, rfl, hH29, (by omega), (hd27), (hfc.use), (hnc), (hlc.write _ _ _), (wrs_go (fmtG_at (by omega)) hst (Classical.not_not.1 h32)), e15_0, e15_4, e15_5, e15_15, e15_18, rfl⟩
  ·
   refine wp_exit ?_
   refine zx (zx (x_in (?_)))
   refine zc (hK10 _ _ ?_)
   refine wp_seq_k fun K33 hK33 => ?_
   refine zb ?_
   refine za (zd (v := (.pointer (some ⟨db, 0, none⟩))) e15_0 ?_)
   refine za (zK (v := (.agg #[(.int .i64 0), (.int .i64 1), (.int .i64 0), (.int .i64 0), (.int .i64 0)])) (fun _ => by kernel_rfl) ?_)
   refine za (zk (vs := #[(.pointer (some ⟨db, 0, none⟩)), (.int .i64 0), (.agg #[(.int .i64 0), (.int .i64 1), (.int .i64 0), (.int .i64 0), (.int .i64 0)])]) ca123 rfl (args3 rfl rfl rfl) (hsv_c (d := dc) ((hH18.front 1 rfl).front 1 rfl).all2 hdc hfc (by omega) hlc (by rw [hnc]; exact h4) (hg.mono (zh 1 rfl)) 0 (h := (Hd.mk 0 1 0 0 0))) ?_)
   rintro _ w38 ⟨sg34, rfl, hd35, hX36⟩
   refine ⟨_, rfl, ?_⟩
   have hH37 : Has E w38 [sg34, [Hp.one pb (.cells #[(.bool ((svD dc 0 (Hd.mk 0 1 0 0 0)).2.2).p.off), (.bool ((svD dc 0 (Hd.mk 0 1 0 0 0)).2.2).p.armed), (.int .i64 ((svD dc 0 (Hd.mk 0 1 0 0 0)).2.2).p.left), (.int .i64 ((svD dc 0 (Hd.mk 0 1 0 0 0)).2.2).p.uses)] 145 (0, 0))], [Hp.one ab3 (.cells #[(.pointer (some ⟨db, 0, none⟩)), (.int .i64 2), (.int .i64 (((d.la.length : Nat) : Int) - 2))] 265 (0, 0))], R] := hX36.of_all2
   refine za (zd (v := (.tuple #[(.agg #[(.int .i64 ((svD dc 0 (Hd.mk 0 1 0 0 0)).2.1).seq), (.int .i64 ((svD dc 0 (Hd.mk 0 1 0 0 0)).2.1).ep), (.int .i64 ((svD dc 0 (Hd.mk 0 1 0 0 0)).2.1).cut), (.int .i64 ((svD dc 0 (Hd.mk 0 1 0 0 0)).2.1).st), (.int .i64 ((svD dc 0 (Hd.mk 0 1 0 0 0)).2.1).mrk)]), (.int .i64 ((svD dc 0 (Hd.mk 0 1 0 0 0)).1))])) rfl ?_)
   refine za (zp (v := (.agg #[(.int .i64 ((svD dc 0 (Hd.mk 0 1 0 0 0)).2.1).seq), (.int .i64 ((svD dc 0 (Hd.mk 0 1 0 0 0)).2.1).ep), (.int .i64 ((svD dc 0 (Hd.mk 0 1 0 0 0)).2.1).cut), (.int .i64 ((svD dc 0 (Hd.mk 0 1 0 0 0)).2.1).st), (.int .i64 ((svD dc 0 (Hd.mk 0 1 0 0 0)).2.1).mrk)])) rfl rfl ?_)
   refine za (zp (v := (.int .i64 ((svD dc 0 (Hd.mk 0 1 0 0 0)).1))) rfl rfl ?_)
   refine za (zU (cs := #[(.int .i64 0), (.int .i64 0), (.int .i64 0), (.int .i64 0), (.int .i64 0)]) zR rfl hH37 fun b39 w40 hH41 => ?_)
   refine zB (zw (vs := [(.int .i64 ((svD dc 0 (Hd.mk 0 1 0 0 0)).2.1).seq), (.int .i64 ((svD dc 0 (Hd.mk 0 1 0 0 0)).2.1).ep), (.int .i64 ((svD dc 0 (Hd.mk 0 1 0 0 0)).2.1).cut), (.int .i64 ((svD dc 0 (Hd.mk 0 1 0 0 0)).2.1).st), (.int .i64 ((svD dc 0 (Hd.mk 0 1 0 0 0)).2.1).mrk)]) (c' := #[(.int .i64 ((svD dc 0 (Hd.mk 0 1 0 0 0)).2.1).seq), (.int .i64 ((svD dc 0 (Hd.mk 0 1 0 0 0)).2.1).ep), (.int .i64 ((svD dc 0 (Hd.mk 0 1 0 0 0)).2.1).cut), (.int .i64 ((svD dc 0 (Hd.mk 0 1 0 0 0)).2.1).st), (.int .i64 ((svD dc 0 (Hd.mk 0 1 0 0 0)).2.1).mrk)]) zR rfl rfl rfl rfl (by intro u hu; simp only [List.mem_cons, List.not_mem_nil, or_false] at hu; rcases hu with rfl | rfl | rfl | rfl | rfl <;> first | rfl) (by simp) (by kernel_rfl) (hH41.front 0 rfl) fun w42 hH43 => ?_)
   refine za (ze (v := (.int .i64 ((svD dc 0 (Hd.mk 0 1 0 0 0)).1))) rfl ?_)
   refine zf ?_
   refine zc (hK33 _ _ ?_)
   refine wp_seq_k fun K44 hK44 => ?_
   refine wp_seq_k fun K45 hK45 => ?_
   refine zb ?_
   refine za (zd (v := (.int .i64 ((svD dc 0 (Hd.mk 0 1 0 0 0)).1))) rfl ?_)
   refine za (o_neq (a := (svD dc 0 (Hd.mk 0 1 0 0 0)).1) (b := 0) rfl rfl ?_)
   refine zf ?_
   refine zc (hK45 _ _ ?_)
   refine zt rfl (fun h46 => ?_) (fun h46 => ?_)
   ·
    have hr_ : wrs d (fmtG d.la.length) = (0, dc) := wrs_last hst (by rw [fmtG_len]; omega)
    have hW_ : (fmS d) = svD dc 0 ⟨0, 1, 0, 0, 0⟩ := by unfold fmS; rw [hr_, if_neg (fun g_ => g_ rfl)]
    exact absurd hm (by rw [hW_]; exact h46)
   ·
    have hr_ : wrs d (fmtG d.la.length) = (0, dc) := wrs_last hst (by rw [fmtG_len]; omega)
    have hW_ : (fmS d) = svD dc 0 ⟨0, 1, 0, 0, 0⟩ := by unfold fmS; rw [hr_, if_neg (fun g_ => g_ rfl)]
    refine wp_skip ?_
    refine zc (hK44 _ _ ?_)
    refine wp_seq_k fun K47 hK47 => ?_
    refine zb ?_
    refine za (zC (cs := [(.int .i64 ((svD dc 0 (Hd.mk 0 1 0 0 0)).2.1).seq), (.int .i64 ((svD dc 0 (Hd.mk 0 1 0 0 0)).2.1).ep), (.int .i64 ((svD dc 0 (Hd.mk 0 1 0 0 0)).2.1).cut), (.int .i64 ((svD dc 0 (Hd.mk 0 1 0 0 0)).2.1).st), (.int .i64 ((svD dc 0 (Hd.mk 0 1 0 0 0)).2.1).mrk)]) Tryz.underlying23 rfl zR rfl hH43 (zh 0 rfl) (CellsAt.one rfl) ?_)
    refine za (zK (v := (.agg #[(.int .i64 ((svD dc 0 (Hd.mk 0 1 0 0 0)).2.1).seq), (.int .i64 ((svD dc 0 (Hd.mk 0 1 0 0 0)).2.1).ep), (.int .i64 ((svD dc 0 (Hd.mk 0 1 0 0 0)).2.1).cut), (.int .i64 ((svD dc 0 (Hd.mk 0 1 0 0 0)).2.1).st), (.int .i64 ((svD dc 0 (Hd.mk 0 1 0 0 0)).2.1).mrk)])) (fun _ => by kernel_rfl) ?_)
    refine za (zd (v := (.pointer (some ⟨db, 0, none⟩))) e15_0 ?_)
    refine za (zd (v := (.pointer (some ⟨ab3, 0, none⟩))) e15_4 ?_)
    refine za (zK (v := (.agg #[(.int .i64 ((svD dc 0 (Hd.mk 0 1 0 0 0)).2.1).seq), (.int .i64 ((svD dc 0 (Hd.mk 0 1 0 0 0)).2.1).ep), (.int .i64 ((svD dc 0 (Hd.mk 0 1 0 0 0)).2.1).cut), (.int .i64 ((svD dc 0 (Hd.mk 0 1 0 0 0)).2.1).st), (.int .i64 ((svD dc 0 (Hd.mk 0 1 0 0 0)).2.1).mrk), (.pointer (some ⟨db, 0, none⟩)), (.pointer (some ⟨ab3, 0, none⟩)), (.slice none 0 0), (.int .i64 0), (.int .i64 0), (.int .i64 0), (.bool true), (.int .i64 0)])) (fun _ => by kernel_rfl) ?_)
    refine za (o_box (cs := #[(.int .i64 ((svD dc 0 (Hd.mk 0 1 0 0 0)).2.1).seq), (.int .i64 ((svD dc 0 (Hd.mk 0 1 0 0 0)).2.1).ep), (.int .i64 ((svD dc 0 (Hd.mk 0 1 0 0 0)).2.1).cut), (.int .i64 ((svD dc 0 (Hd.mk 0 1 0 0 0)).2.1).st), (.int .i64 ((svD dc 0 (Hd.mk 0 1 0 0 0)).2.1).mrk), (.pointer (some ⟨db, 0, none⟩)), (.pointer (some ⟨ab3, 0, none⟩)), (.slice none 0 0), (.int .i64 0), (.int .i64 0), (.int .i64 0), (.bool true), (.int .i64 0)]) rfl rfl hH43 fun b48 w49 hH50 => ?_)
    refine za (ze (v := (.pointer (some ⟨b48, 0, none⟩))) rfl ?_)
    refine za (ze (v := (.int .i64 0)) rfl ?_)
    refine zf ?_
    refine zc (hK47 _ _ ?_)
    refine wp_ret ?_
    refine zV Tryz.results31  (v := (.pointer (some ⟨b48, 0, none⟩))) rfl (x := (.int .i64 0)) rfl ?_
    have hH51 := Has.nil hH50
    have hH52 : Has E w49 [([Hp.one b48 (.cells #[(.int .i64 ((svD dc 0 (Hd.mk 0 1 0 0 0)).2.1).seq), (.int .i64 ((svD dc 0 (Hd.mk 0 1 0 0 0)).2.1).ep), (.int .i64 ((svD dc 0 (Hd.mk 0 1 0 0 0)).2.1).cut), (.int .i64 ((svD dc 0 (Hd.mk 0 1 0 0 0)).2.1).st), (.int .i64 ((svD dc 0 (Hd.mk 0 1 0 0 0)).2.1).mrk), (.pointer (some ⟨db, 0, none⟩)), (.pointer (some ⟨ab3, 0, none⟩)), (.slice none 0 0), (.int .i64 0), (.int .i64 0), (.int .i64 0), (.bool true), (.int .i64 0)] 175 (0, 0))] ++ []), [Hp.one b39 (.cells #[(.int .i64 ((svD dc 0 (Hd.mk 0 1 0 0 0)).2.1).seq), (.int .i64 ((svD dc 0 (Hd.mk 0 1 0 0 0)).2.1).ep), (.int .i64 ((svD dc 0 (Hd.mk 0 1 0 0 0)).2.1).cut), (.int .i64 ((svD dc 0 (Hd.mk 0 1 0 0 0)).2.1).st), (.int .i64 ((svD dc 0 (Hd.mk 0 1 0 0 0)).2.1).mrk)] 23 (0, 0))], sg34, [Hp.one pb (.cells #[(.bool ((svD dc 0 (Hd.mk 0 1 0 0 0)).2.2).p.off), (.bool ((svD dc 0 (Hd.mk 0 1 0 0 0)).2.2).p.armed), (.int .i64 ((svD dc 0 (Hd.mk 0 1 0 0 0)).2.2).p.left), (.int .i64 ((svD dc 0 (Hd.mk 0 1 0 0 0)).2.2).p.uses)] 145 (0, 0))], [Hp.one ab3 (.cells #[(.pointer (some ⟨db, 0, none⟩)), (.int .i64 2), (.int .i64 (((d.la.length : Nat) : Int) - 2))] 265 (0, 0))], R] := Has.cl2 (hH51.front 1 rfl)
    have hd53 : StmAt db ab3 b48 ([Hp.one b48 (.cells #[(.int .i64 ((svD dc 0 (Hd.mk 0 1 0 0 0)).2.1).seq), (.int .i64 ((svD dc 0 (Hd.mk 0 1 0 0 0)).2.1).ep), (.int .i64 ((svD dc 0 (Hd.mk 0 1 0 0 0)).2.1).cut), (.int .i64 ((svD dc 0 (Hd.mk 0 1 0 0 0)).2.1).st), (.int .i64 ((svD dc 0 (Hd.mk 0 1 0 0 0)).2.1).mrk), (.pointer (some ⟨db, 0, none⟩)), (.pointer (some ⟨ab3, 0, none⟩)), (.slice none 0 0), (.int .i64 0), (.int .i64 0), (.int .i64 0), (.bool true), (.int .i64 0)] 175 (0, 0))] ++ []) (⟨((svD dc 0 (Hd.mk 0 1 0 0 0)).2.1).seq, ((svD dc 0 (Hd.mk 0 1 0 0 0)).2.1).ep, ((svD dc 0 (Hd.mk 0 1 0 0 0)).2.1).cut, ((svD dc 0 (Hd.mk 0 1 0 0 0)).2.1).st, ((svD dc 0 (Hd.mk 0 1 0 0 0)).2.1).mrk, ([] : List LEnt), 0, 0, 0, true, 0⟩ : StmS) := StmAt.mk (v := (⟨((svD dc 0 (Hd.mk 0 1 0 0 0)).2.1).seq, ((svD dc 0 (Hd.mk 0 1 0 0 0)).2.1).ep, ((svD dc 0 (Hd.mk 0 1 0 0 0)).2.1).cut, ((svD dc 0 (Hd.mk 0 1 0 0 0)).2.1).st, ((svD dc 0 (Hd.mk 0 1 0 0 0)).2.1).mrk, ([] : List LEnt), 0, 0, 0, true, 0⟩ : StmS)) (OwnL.nil 42 3)
    have hH54 : Has E w49 [([Hp.one b48 (.cells #[(.int .i64 ((svD dc 0 (Hd.mk 0 1 0 0 0)).2.1).seq), (.int .i64 ((svD dc 0 (Hd.mk 0 1 0 0 0)).2.1).ep), (.int .i64 ((svD dc 0 (Hd.mk 0 1 0 0 0)).2.1).cut), (.int .i64 ((svD dc 0 (Hd.mk 0 1 0 0 0)).2.1).st), (.int .i64 ((svD dc 0 (Hd.mk 0 1 0 0 0)).2.1).mrk), (.pointer (some ⟨db, 0, none⟩)), (.pointer (some ⟨ab3, 0, none⟩)), (.slice none 0 0), (.int .i64 0), (.int .i64 0), (.int .i64 0), (.bool true), (.int .i64 0)] 175 (0, 0))] ++ []), [Hp.one ab3 (.cells #[(.pointer (some ⟨db, 0, none⟩)), (.int .i64 2), (.int .i64 (((d.la.length : Nat) : Int) - 2))] 265 (0, 0))], sg34, [Hp.one pb (.cells #[(.bool ((svD dc 0 (Hd.mk 0 1 0 0 0)).2.2).p.off), (.bool ((svD dc 0 (Hd.mk 0 1 0 0 0)).2.2).p.armed), (.int .i64 ((svD dc 0 (Hd.mk 0 1 0 0 0)).2.2).p.left), (.int .i64 ((svD dc 0 (Hd.mk 0 1 0 0 0)).2.2).p.uses)] 145 (0, 0))], R] := (((((hH52.front 5 rfl).front 4 rfl).front 4 rfl).front 5 rfl).front 4 rfl).first 5 rfl
    exact ⟨_, _, _, _, rfl, by rw [hW_]; exact hd35, by rw [hW_]; exact hd53, by rw [hW_]; exact hH54⟩
end Go.Q
namespace Go.Q
open Go.Proofs
set_option linter.unusedVariables false
set_option maxRecDepth 100000
attribute [local irreducible] wpList OK Code.wp
set_option maxHeartbeats 4000000 in
theorem dget_c {E w : World} {R sg : List Hp} {pb db ab : Nat} {d : Dv} {fr n : Int} (hH : Has E w [sg, [Hp.one pb (.cells #[(.bool d.p.off), (.bool d.p.armed), (.int .i64 d.p.left), (.int .i64 d.p.uses)] 145 (0, 0))], [Hp.one ab (.cells #[(.pointer (some ⟨db, 0, none⟩)), (.int .i64 fr), (.int .i64 n)] 265 (0, 0))], R]) (hd : DevAt pb sg db d.la d.lo) (h4 : d.la.length ≤ 4096) (h64 : Full64 d.la) (hlk : LoOk d.lo d.la.length) (hfr : 0 ≤ fr) (hn : 1 ≤ n) (hfn : fr + n ≤ d.la.length) (hon : d.p.off = false) {at_ : Int} (hat : 0 ≤ at_ ∧ at_ ≤ 4611686018427387904) {size : Int} (hsz : 0 ≤ size ∧ size ≤ n * 64) :
  Calls Tryz.prog 98 #[(.pointer (some ⟨ab, 0, none⟩)), (.int .i64 at_), (.int .i64 size)] w fun e w' => e = .returned (.tuple #[S (getP d.la d.lo (allP fr (n * 64) (at_ % (n * 64)) size)), .int .i64 0]) ∧ Has E w' [sg, [Hp.one pb (.cells #[(.bool d.p.off), (.bool d.p.armed), (.int .i64 d.p.left), (.int .i64 d.p.uses)] 145 (0, 0))], [Hp.one ab (.cells #[(.pointer (some ⟨db, 0, none⟩)), (.int .i64 fr), (.int .i64 n)] 265 (0, 0))], R] := by
 obtain ⟨hat1, hat2⟩ := hat
 obtain ⟨hsz1, hsz2⟩ := hsz
 refine zs (args := [(.pointer (some ⟨ab, 0, none⟩)), (.int .i64 at_), (.int .i64 size)]) Tryz.func98 rfl Tryz.ntmps98 (by simp) ?_
 refine wp_seq_k fun K1 hK1 => ?_
 refine zb ?_
 refine za (ze (v := (S ([] : List UInt8))) rfl ?_)
 refine za (ze (v := (.int .i64 0)) rfl ?_)
 refine zf ?_
 refine zc (hK1 _ _ ?_)
 refine wp_seq_k fun K2 hK2 => ?_
 refine wp_seq_k fun K3 hK3 => ?_
 refine zb ?_
 refine za (zd (v := (.pointer (some ⟨ab, 0, none⟩))) rfl ?_)
 refine za (zd (v := (.int .i64 at_)) rfl ?_)
 refine za (zd (v := (.int .i64 size)) rfl ?_)
 refine za (zk (vs := #[(.pointer (some ⟨ab, 0, none⟩)), (.int .i64 at_), (.int .i64 size)]) ca191 rfl (args3 rfl rfl rfl) (amay_c (hH.front 2 rfl).all1 ⟨by omega, by omega⟩ at_ size) ?_)
 rintro _ w6 ⟨rfl, hX4⟩
 refine ⟨_, rfl, ?_⟩
 have hH5 : Has E w6 [[Hp.one ab (.cells #[(.pointer (some ⟨db, 0, none⟩)), (.int .i64 fr), (.int .i64 n)] 265 (0, 0))], sg, [Hp.one pb (.cells #[(.bool d.p.off), (.bool d.p.armed), (.int .i64 d.p.left), (.int .i64 d.p.uses)] 145 (0, 0))], R] := hX4.of_all1
 refine za (o_not2 (b := decide (0 ≤ at_ ∧ at_ ≤ 4611686018427387904 ∧ 0 ≤ size ∧ size ≤ n * 64)) (b' := decide (¬ (0 ≤ at_ ∧ at_ ≤ 4611686018427387904 ∧ 0 ≤ size ∧ size ≤ n * 64))) rfl not_dec ?_)
 refine zf ?_
 refine zc (hK3 _ _ ?_)
 refine zt rfl (fun h7 => ?_) (fun h7 => ?_)
 ·
  exact absurd (show _ ∧ _ ∧ _ ∧ _ from ⟨by omega, by omega, by omega, by omega⟩) h7
 ·
  refine wp_skip ?_
  refine zc (hK2 _ _ ?_)
  refine wp_seq_k fun K8 hK8 => ?_
  refine wp_seq_k fun K9 hK9 => ?_
  refine zb ?_
  refine za (zd (v := (.pointer (some ⟨ab, 0, none⟩))) rfl ?_)
  refine za (zl rfl ?_)
  refine za (zg (k := 0) (fun _ => by kernel_rfl) rfl ?_)
  refine za (zj (v := (.pointer (some ⟨db, 0, none⟩))) Tryz.underlying25 rfl rfl hH5 (zh 0 rfl) (CellsAt.one rfl) ?_)
  refine za (zk (vs := #[(.pointer (some ⟨db, 0, none⟩))]) ca186 rfl (zF rfl) (don_d (p := d.p) (la := d.la) (lo := d.lo) ((hH5.front 2 rfl).front 2 rfl).all2 hd ) ?_)
  rintro _ w12 ⟨rfl, hX10⟩
  refine ⟨_, rfl, ?_⟩
  have hH11 : Has E w12 [sg, [Hp.one pb (.cells #[(.bool d.p.off), (.bool d.p.armed), (.int .i64 d.p.left), (.int .i64 d.p.uses)] 145 (0, 0))], [Hp.one ab (.cells #[(.pointer (some ⟨db, 0, none⟩)), (.int .i64 fr), (.int .i64 n)] 265 (0, 0))], R] := hX10.of_all2
  refine za (o_not rfl ?_)
  refine zf ?_
  refine zc (hK9 _ _ ?_)
  refine zX rfl (fun h13 => ?_) (fun h13 => ?_)
  ·
   have h13_n : (!d.p.off) = false := by first | simpa using h13 | exact Bool.of_not_eq_true (fun g_ => by rw [g_] at h13; cases h13)
   have h13_n_n : d.p.off = true := by first | simpa using h13_n | exact Bool.of_not_eq_false (fun g_ => by rw [g_] at h13_n; cases h13_n)
   exact absurd h13 (by rw [hon]; decide)
  ·
   have h13_n : (!d.p.off) = true := by first | simpa using h13 | exact Bool.of_not_eq_false (fun g_ => by rw [g_] at h13; cases h13)
   have h13_n_n : d.p.off = false := by first | simpa using h13_n | exact Bool.of_not_eq_true (fun g_ => by rw [g_] at h13_n; cases h13_n)
   refine wp_skip ?_
   refine zc (hK8 _ _ ?_)
   refine wp_seq_k fun K14 hK14 => ?_
   refine zb ?_
   refine za (zU (cs := #[(.pointer none), (.slice none 0 0)]) ti249 rfl hH11 fun b15 w16 hH17 => ?_)
   refine zf ?_
   refine zc (hK14 _ _ ?_)
   refine wp_seq_k fun K18 hK18 => ?_
   refine wp_seq_k fun K19 hK19 => ?_
   refine zb ?_
   refine za (zd (v := (.pointer (some ⟨ab, 0, none⟩))) rfl ?_)
   refine za (zd (v := (.int .i64 at_)) rfl ?_)
   refine za (zd (v := (.int .i64 size)) rfl ?_)
   refine za (zk (vs := #[(.pointer (some ⟨ab, 0, none⟩)), (.int .i64 at_), (.int .i64 size)]) ca192 rfl (args3 rfl rfl rfl) (pieces_c (hH17.front 3 rfl).all1 ⟨by omega, by omega⟩ ⟨by omega, by omega⟩ (at_ := at_) (size := size) ⟨by omega, by omega⟩ ⟨by omega, by omega⟩) ?_)
   rintro _ w25 ⟨v20, s21, rfl, ho22, hX23⟩
   refine ⟨_, rfl, ?_⟩
   have hH24 : Has E w25 [s21, [Hp.one ab (.cells #[(.pointer (some ⟨db, 0, none⟩)), (.int .i64 fr), (.int .i64 n)] 265 (0, 0))], [Hp.one b15 (.cells #[(.pointer none), (.slice none 0 0)] 249 (0, 0))], sg, [Hp.one pb (.cells #[(.bool d.p.off), (.bool d.p.armed), (.int .i64 d.p.left), (.int .i64 d.p.uses)] 145 (0, 0))], R] := hX23.of_all2
   refine za (zY Tryz.underlying266 rfl ho22.sl ?_)
   refine za (zd (v := (.int .i64 0)) rfl ?_)
   refine zf ?_
   refine zc (hK19 _ _ ?_)
   refine wp_block ?_
   have hpl := pieces_count (fr := fr) (L := n * 64) size.toNat (at_ % (n * 64)) size
   have hpk := pieces_ok (fr := fr) (n := n) (by omega) size.toNat (at_ % (n * 64)) size (Int.emod_nonneg _ (by omega)) (Int.emod_lt_of_pos _ (by omega))
   have hpe : (allP fr (n * 64) (at_ % (n * 64)) size).length ≤ size.toNat := hpl
   let I27 : Nat → (Nat → Value) → World → Prop := fun n__ r__ w__ => ∃ (j : Nat) (sgB : List Hp) (acc : Bs), n__ = (allP fr (n * 64) (at_ % (n * 64)) size).length - j ∧ Has E w__ [sgB, s21, [Hp.one ab (.cells #[(.pointer (some ⟨db, 0, none⟩)), (.int .i64 fr), (.int .i64 n)] 265 (0, 0))], sg, [Hp.one pb (.cells #[(.bool d.p.off), (.bool d.p.armed), (.int .i64 d.p.left), (.int .i64 d.p.uses)] 145 (0, 0))], R] ∧ (j ≤ (allP fr (n * 64) (at_ % (n * 64)) size).length) ∧ (Bld b15 acc sgB) ∧ (acc.length ≤ j * 64) ∧ (acc = getP d.la d.lo ((allP fr (n * 64) (at_ % (n * 64)) size).take j)) ∧ r__ 0 = (.pointer (some ⟨ab, 0, none⟩)) ∧ r__ 1 = (.int .i64 at_) ∧ r__ 2 = (.int .i64 size) ∧ r__ 8 = (.pointer (some ⟨b15, 0, none⟩)) ∧ r__ 17 = (.bool (decide (¬ (0 ≤ at_ ∧ at_ ≤ 4611686018427387904 ∧ 0 ≤ size ∧ size ≤ n * 64)))) ∧ r__ 23 = (.bool (!(!d.p.off))) ∧ r__ 27 = v20 ∧ r__ 28 = (.int .i64 (((allP fr (n * 64) (at_ % (n * 64)) size).length : Nat) : Int)) ∧ r__ 29 = (.int .i64 (j : Int))
   have hH28 : Has E w25 [[Hp.one b15 (.cells #[(.pointer none), (.slice none 0 0)] 249 (0, 0))], s21, [Hp.one ab (.cells #[(.pointer (some ⟨db, 0, none⟩)), (.int .i64 fr), (.int .i64 n)] 265 (0, 0))], sg, [Hp.one pb (.cells #[(.bool d.p.off), (.bool d.p.armed), (.int .i64 d.p.left), (.int .i64 d.p.uses)] 145 (0, 0))], R] := Has.pick hH24 [2, 0, 0, 0, 0, 0] (by kernel_rfl)
   refine zT I27 _ ⟨0, [Hp.one b15 (.cells #[(.pointer none), (.slice none 0 0)] 249 (0, 0))], ([] : Bs), rfl, hH28, Nat.zero_le _, Bld.new _, (by simp), (by rfl), rfl, rfl, rfl, rfl, rfl, rfl, rfl, rfl, rfl⟩ ?_
   rintro n_ r31 w29 ⟨j, sgB, acc, rfl, hH30, hj, hB, hal, hacc, e26_0, e26_1, e26_2, e26_8, e26_17, e26_23, e26_27, e26_28, e26_29⟩
   refine wp_seq_k fun K32 hK32 => ?_
   refine zb ?_
   refine za (zL (a := (j : Int)) (b := (((allP fr (n * 64) (at_ % (n * 64)) size).length : Nat) : Int)) e26_29 e26_28 ?_)
   refine zf ?_
   refine zc (hK32 _ _ ?_)
   refine wp_seq_k fun K33 hK33 => ?_
   refine zt rfl (fun h34 => ?_) (fun h34 => ?_)
   ·
    refine wp_skip ?_
    refine zc (hK33 _ _ ?_)
    refine wp_seq_k fun K35 hK35 => ?_
    refine wp_block ?_
    refine wp_seq_k fun K36 hK36 => ?_
    refine zb ?_
    obtain ⟨x40, hx41⟩ : ∃ x_, (allP fr (n * 64) (at_ % (n * 64)) size)[((j : Int)).toNat]? = some x_ := zM (by omega)
    refine za (o_indexF pcC_len Tryz.underlying266 ti269 e26_27 ho22.sl rfl e26_29 (by omega) hx41 fun b37 o38 hc39 => ?_)
    refine za (zC (cs := [(.int .i64 x40.sec), (.int .i64 x40.frm), (.int .i64 x40.upto)]) Tryz.underlying269 rfl ti269 rfl hH30 (zh 1 rfl) hc39 ?_)
    refine za (zU (cs := #[(.int .i64 0), (.int .i64 0), (.int .i64 0)]) ti269 rfl hH30 fun b42 w43 hH44 => ?_)
    refine zB (zw (vs := [(.int .i64 x40.sec), (.int .i64 x40.frm), (.int .i64 x40.upto)]) (c' := #[(.int .i64 x40.sec), (.int .i64 x40.frm), (.int .i64 x40.upto)]) ti269 rfl rfl rfl rfl (by intro u hu; simp only [List.mem_cons, List.not_mem_nil, or_false] at hu; rcases hu with rfl | rfl | rfl <;> first | rfl) (by simp) (by kernel_rfl) (hH44.front 0 rfl) fun w45 hH46 => ?_)
    refine zf ?_
    refine zc (hK36 _ _ ?_)
    refine wp_seq_k fun K47 hK47 => ?_
    refine Rest.region mixed (by kernel_rfl) ?_
    have hH48 : Has E { w45 with drawn := w45.drawn + 1 } [[Hp.one b42 (.cells #[(.int .i64 x40.sec), (.int .i64 x40.frm), (.int .i64 x40.upto)] 269 (0, 0))], sgB, s21, [Hp.one ab (.cells #[(.pointer (some ⟨db, 0, none⟩)), (.int .i64 fr), (.int .i64 n)] 265 (0, 0))], sg, [Hp.one pb (.cells #[(.bool d.p.off), (.bool d.p.armed), (.int .i64 d.p.left), (.int .i64 d.p.uses)] 145 (0, 0))], R] := Has0.drew hH46 _
    refine Rest.phaseA (fun w_ => Has E w_ [[Hp.one b42 (.cells #[(.int .i64 x40.sec), (.int .i64 x40.frm), (.int .i64 x40.upto)] 269 (0, 0))], [Hp.one ab (.cells #[(.pointer (some ⟨db, 0, none⟩)), (.int .i64 fr), (.int .i64 n)] 265 (0, 0))]]) 0 6 6 rfl (by decide) (by kernel_rfl) ?_
    refine zr 0 rfl (by kernel_rfl) (fun w_ h_ => zd (v := (.pointer (some ⟨ab, 0, none⟩))) e26_0 ⟨rfl, rfl⟩) ?_
    refine zr 1 rfl (by kernel_rfl) (fun w_ h_ => zl rfl ⟨rfl, rfl⟩) ?_
    refine zr 2 rfl (by kernel_rfl) (fun w_ h_ => zg (k := 0) (fun _ => by kernel_rfl) rfl ⟨rfl, rfl⟩) ?_
    refine zr 3 rfl (by kernel_rfl) (fun w_ h_ => zj (v := (.pointer (some ⟨db, 0, none⟩))) Tryz.underlying25 rfl rfl h_ (zh 1 rfl) (CellsAt.one rfl) ⟨rfl, rfl⟩) ?_
    refine zr 4 rfl (by kernel_rfl) (fun w_ h_ => zg (k := 0) (fun _ => by kernel_rfl) rfl ⟨rfl, rfl⟩) ?_
    refine zr 5 rfl (by kernel_rfl) (fun w_ h_ => zj (v := (.int .i64 x40.sec)) Tryz.underlying3 rfl rfl h_ (zh 0 rfl) (CellsAt.one rfl) ⟨rfl, rfl⟩) ?_
    have hH49 : Has E { w45 with drawn := w45.drawn + 1 } [[Hp.one b42 (.cells #[(.int .i64 x40.sec), (.int .i64 x40.frm), (.int .i64 x40.upto)] 269 (0, 0))], [Hp.one ab (.cells #[(.pointer (some ⟨db, 0, none⟩)), (.int .i64 fr), (.int .i64 n)] 265 (0, 0))]] := ((hH48.front 3 rfl).front 1 rfl).first 2 rfl
    refine zQ (by kernel_rfl) hH49 ?_
    refine zP 6 rfl (by kernel_rfl) (zk (vs := #[(.pointer (some ⟨db, 0, none⟩)), (.int .i64 x40.sec)]) ca188 rfl (zI rfl rfl) (read_d (p := d.p) (la := d.la) (lo := d.lo) ((hH48.front 5 rfl).front 5 rfl).all2 hd x40.sec) ?_)
    rintro _ w52 ⟨rfl, hX50⟩
    refine ⟨_, rfl, ?_⟩
    have hH51 : Has E w52 [sg, [Hp.one pb (.cells #[(.bool d.p.off), (.bool d.p.armed), (.int .i64 d.p.left), (.int .i64 d.p.uses)] 145 (0, 0))], [Hp.one b42 (.cells #[(.int .i64 x40.sec), (.int .i64 x40.frm), (.int .i64 x40.upto)] 269 (0, 0))], sgB, s21, [Hp.one ab (.cells #[(.pointer (some ⟨db, 0, none⟩)), (.int .i64 fr), (.int .i64 n)] 265 (0, 0))], R] := hX50.of_all2
    refine zP 7 rfl (by kernel_rfl) (zd (v := (.tuple #[(S (readS d.p d.la d.lo x40.sec)), (.int .i64 (readE d.p d.la x40.sec))])) rfl ?_)
    refine Rest.phaseA (fun w_ => Has E w_ []) 8 11 3 rfl (by decide) (by kernel_rfl) ?_
    refine zr 8 rfl (by kernel_rfl) (fun w_ h_ => zp (v := (S (readS d.p d.la d.lo x40.sec))) rfl rfl ⟨rfl, rfl⟩) ?_
    refine zr 9 rfl (by kernel_rfl) (fun w_ h_ => zp (v := (.int .i64 (readE d.p d.la x40.sec))) rfl rfl ⟨rfl, rfl⟩) ?_
    refine zr 10 rfl (by kernel_rfl) (fun w_ h_ => ze (v := (S (readS d.p d.la d.lo x40.sec))) rfl ⟨rfl, rfl⟩) ?_
    have hH53 : Has E w52 [] := hH51.first 0 rfl
    refine zQ (by kernel_rfl) hH53 ?_
    refine zP 11 rfl (by kernel_rfl) (ze (v := (.int .i64 (readE d.p d.la x40.sec))) rfl ?_)
    refine Rest.done (by kernel_rfl) ?_
    refine zc (hK47 _ _ ?_)
    refine wp_seq_k fun K54 hK54 => ?_
    refine wp_seq_k fun K55 hK55 => ?_
    refine zb ?_
    refine za (zd (v := (.int .i64 (readE d.p d.la x40.sec))) rfl ?_)
    refine za (o_neq (a := readE d.p d.la x40.sec) (b := 0) rfl rfl ?_)
    refine zf ?_
    refine zc (hK55 _ _ ?_)
    refine zt rfl (fun h56 => ?_) (fun h56 => ?_)
    ·
     obtain ⟨hq1, hq2, hq3, hq4, hq5⟩ := hpk x40 (List.mem_of_getElem? hx41)
     have hrd_ := rd_on hon (la := d.la) (lo := d.lo) (n := x40.sec) ⟨by omega, by omega⟩
     exact absurd hrd_.2 h56
    ·
     obtain ⟨hq1, hq2, hq3, hq4, hq5⟩ := hpk x40 (List.mem_of_getElem? hx41)
     have hrd_ := rd_on hon (la := d.la) (lo := d.lo) (n := x40.sec) ⟨by omega, by omega⟩
     have hrl_ : (readS d.p d.la d.lo x40.sec).length = 64 := by rw [hrd_.1]; exact nowAt_len h64 hlk (by omega)
     refine wp_skip ?_
     refine zc (hK54 _ _ ?_)
     refine zb ?_
     refine za (zd (v := (S (readS d.p d.la d.lo x40.sec))) rfl ?_)
     refine za (zg (k := 1) (fun _ => by kernel_rfl) rfl ?_)
     refine za (zj (v := (.int .i64 x40.frm)) Tryz.underlying3 rfl rfl hH51 (zh 2 rfl) (CellsAt.one rfl) ?_)
     refine za (zg (k := 2) (fun _ => by kernel_rfl) rfl ?_)
     refine za (zj (v := (.int .i64 x40.upto)) Tryz.underlying3 rfl rfl hH51 (zh 2 rfl) (CellsAt.one rfl) ?_)
     refine za (o_ssl Tryz.underlying9 rfl rfl rfl (by omega) (by omega) (by omega) ?_)
     refine za (zk (vs := #[(.pointer (some ⟨b15, 0, none⟩)), (S (((readS d.p d.la d.lo x40.sec).take (x40.upto).toNat).drop (x40.frm).toNat))]) ca179 rfl (zI e26_8 rfl) (bws (hH51.front 3 rfl).all1 hB (((readS d.p d.la d.lo x40.sec).take (x40.upto).toNat).drop (x40.frm).toNat) (by simp only [List.length_drop, List.length_take]; omega)) ?_)
     rintro _ w61 ⟨sg57, rfl, hB58, hX59⟩
     refine ⟨_, rfl, ?_⟩
     have hH60 : Has E w61 [sg57, sg, [Hp.one pb (.cells #[(.bool d.p.off), (.bool d.p.armed), (.int .i64 d.p.left), (.int .i64 d.p.uses)] 145 (0, 0))], [Hp.one b42 (.cells #[(.int .i64 x40.sec), (.int .i64 x40.frm), (.int .i64 x40.upto)] 269 (0, 0))], s21, [Hp.one ab (.cells #[(.pointer (some ⟨db, 0, none⟩)), (.int .i64 fr), (.int .i64 n)] 265 (0, 0))], R] := hX59.of_all1
     refine zf ?_
     refine zG ?_
     refine zc (hK35 _ _ ?_)
     refine zb ?_
     refine za (zH (a := (j : Int)) (b := 1) e26_29 rfl (w64 (by omega) (by omega)) ?_)
     refine za (zd (v := (.int .i64 ((j : Int) + 1))) rfl ?_)
     refine zf ?_
     have hH62 : Has E w61 [sg57, s21, [Hp.one ab (.cells #[(.pointer (some ⟨db, 0, none⟩)), (.int .i64 fr), (.int .i64 n)] 265 (0, 0))], sg, [Hp.one pb (.cells #[(.bool d.p.off), (.bool d.p.armed), (.int .i64 d.p.left), (.int .i64 d.p.uses)] 145 (0, 0))], R] := Has.pick hH60 [0, 3, 3, 0, 0, 1] (by kernel_rfl)
     refine zc ⟨(allP fr (n * 64) (at_ % (n * 64)) size).length - (j + 1), _, rfl, ?_, ?_⟩
     · omega
     · exact ⟨(j + 1), sg57, (acc ++ (((readS d.p d.la d.lo x40.sec).take (x40.upto).toNat).drop (x40.frm).toNat)), rfl, hH62, (by omega), (hB58), (by simp only [List.length_append, List.length_drop, List.length_take]; omega), (by rw [zO (show (allP fr (n * 64) (at_ % (n * 64)) size)[j]? = some _ from hx41), getP_snoc, ← hacc, hrd_.1]; rfl), e26_0, e26_1, e26_2, e26_8, e26_17, e26_23, e26_27, e26_28, rfl⟩
   ·
    refine wp_exit ?_
    refine zx (zx (x_in (?_)))
    refine zc (hK18 _ _ ?_)
    refine wp_seq_k fun K63 hK63 => ?_
    refine zb ?_
    refine za (zk (vs := #[(.pointer (some ⟨b15, 0, none⟩))]) ca181 rfl (zF e26_8) (bstr hH30.all1 hB) ?_)
    rintro _ w66 ⟨rfl, hX64⟩
    refine ⟨_, rfl, ?_⟩
    have hH65 : Has E w66 [s21, [Hp.one ab (.cells #[(.pointer (some ⟨db, 0, none⟩)), (.int .i64 fr), (.int .i64 n)] 265 (0, 0))], sg, [Hp.one pb (.cells #[(.bool d.p.off), (.bool d.p.armed), (.int .i64 d.p.left), (.int .i64 d.p.uses)] 145 (0, 0))], R] := hX64.of_all
    refine za (ze (v := (S acc)) rfl ?_)
    refine za (ze (v := (.int .i64 0)) rfl ?_)
    refine zf ?_
    refine zc (hK63 _ _ ?_)
    refine wp_ret ?_
    refine zV Tryz.results98  (v := (S acc)) rfl (x := (.int .i64 0)) rfl ?_
    have hH67 : Has E w66 [sg, [Hp.one pb (.cells #[(.bool d.p.off), (.bool d.p.armed), (.int .i64 d.p.left), (.int .i64 d.p.uses)] 145 (0, 0))], [Hp.one ab (.cells #[(.pointer (some ⟨db, 0, none⟩)), (.int .i64 fr), (.int .i64 n)] 265 (0, 0))], R] := ((((hH65.front 4 rfl).front 2 rfl).front 4 rfl).front 4 rfl).first 4 rfl
    have e_ : j = (allP fr (n * 64) (at_ % (n * 64)) size).length := by omega
    rw [e_, List.take_of_length_le (Nat.le_refl _)] at hacc
    exact ⟨by rw [← hacc], hH67⟩
end Go.Q
namespace Go.Q
open Go.Proofs
set_option linter.unusedVariables false
set_option maxRecDepth 100000
attribute [local irreducible] wpList OK Code.wp
set_option maxHeartbeats 4000000 in
theorem fopen_c {E w : World} {R : List Hp} (hH : Has E w [R]) (hg : CellsAt R 0 0 nibV) (s : List UInt8) (hsl : s.length ≤ 9000000000000000000) :
  Calls Tryz.prog 193 #[(S s)] w fun e w' => e = .returned (.tuple #[(.agg #[(.int .i64 (oF s).ep), (.int .i64 (oF s).pl), (.int .i64 (oF s).gsn), (S (oF s).data)]), .int .i64 (oN s), .bool (opensB s)]) ∧ Has E w' [R] := by
 have ht1 := take_one s
 refine zs (args := [(S s)]) Tryz.func193 rfl Tryz.ntmps193 (by simp) ?_
 refine wp_seq_k fun K1 hK1 => ?_
 refine zb ?_
 refine za (zU (cs := #[(.int .i64 0), (.int .i64 0), (.int .i64 0), (S ([] : List UInt8))]) ti176 rfl hH fun b2 w3 hH4 => ?_)
 refine za (ze (v := (.int .i64 0)) rfl ?_)
 refine za (ze (v := (.bool false)) rfl ?_)
 refine zf ?_
 refine zc (hK1 _ _ ?_)
 refine wp_seq_k fun K5 hK5 => ?_
 refine zb ?_
 refine za (zd (v := (S s)) rfl ?_)
 refine za (zk (vs := #[(S s), (.int .i64 1)]) ca276 rfl (zI rfl rfl) (take_c hH4.all 1 s (by first | omega | exact rest_le1 hsl | exact rest_le2 hsl | exact rest_le3 hsl)) ?_)
 rintro _ w8 ⟨rfl, hX6⟩
 refine ⟨_, rfl, ?_⟩
 have hH7 := hX6.of_all
 refine za (zd (v := (.tuple #[(.int .i64 ((takeS s 1).1)), (S ((takeS s 1).2.1)), (.bool ((takeS s 1).2.2))])) rfl ?_)
 refine za (zp (v := (.int .i64 ((takeS s 1).1))) rfl rfl ?_)
 refine za (zp (v := (S ((takeS s 1).2.1))) rfl rfl ?_)
 refine za (zp (v := (.bool ((takeS s 1).2.2))) rfl rfl ?_)
 refine za (ze (v := (.int .i64 ((takeS s 1).1))) rfl ?_)
 refine za (ze (v := (S ((takeS s 1).2.1))) rfl ?_)
 refine za (ze (v := (.bool ((takeS s 1).2.2))) rfl ?_)
 refine zf ?_
 refine zc (hK5 _ _ ?_)
 refine wp_seq_k fun K9 hK9 => ?_
 refine wp_seq_k fun K10 hK10 => ?_
 refine zb ?_
 refine za (zd (v := (.bool ((takeS s 1).2.2))) rfl ?_)
 refine za (o_not rfl ?_)
 refine za (zd (v := (.bool (!((takeS s 1).2.2)))) rfl ?_)
 rcases Bool.eq_false_or_eq_true (!((takeS s 1).2.2)) with h11 | h11
 ·
  refine zi (b' := true) 17 rfl (congrArg Value.bool h11) rfl ?_
  refine zi (b' := true) 17 rfl (congrArg Value.bool h11) rfl ?_
  refine zi (b' := true) 17 rfl (congrArg Value.bool h11) rfl ?_
  refine zi (b' := true) 17 rfl (congrArg Value.bool h11) rfl ?_
  refine zi (b' := true) 17 rfl (congrArg Value.bool h11) rfl ?_
  refine za (zo (u := (.bool true)) ((rfl : _ = _).trans (congrArg Value.bool h11)) rfl ?_)
  refine zf ?_
  refine zc (hK10 _ _ ?_)
  refine zN rfl rfl ?_
  refine wp_seq_k fun K12 hK12 => ?_
  refine zb ?_
  refine za (zK (v := (.agg #[(.int .i64 0), (.int .i64 0), (.int .i64 0), (S ([] : List UInt8))])) (fun _ => by kernel_rfl) ?_)
  refine zB (zw (vs := [(.int .i64 0), (.int .i64 0), (.int .i64 0), (S ([] : List UInt8))]) (c' := #[(.int .i64 0), (.int .i64 0), (.int .i64 0), (S ([] : List UInt8))]) ti176 rfl rfl rfl rfl (by intro u hu; simp only [List.mem_cons, List.not_mem_nil, or_false] at hu; rcases hu with rfl | rfl | rfl | rfl <;> first | rfl) (by simp) (by kernel_rfl) (hH7.front 0 rfl) fun w13 hH14 => ?_)
  refine za (ze (v := (.int .i64 0)) rfl ?_)
  refine za (ze (v := (.bool false)) rfl ?_)
  refine zf ?_
  refine zc (hK12 _ _ ?_)
  refine wp_ret ?_
  refine zv (c_retC3 Tryz.results193 rfl (zy (cs := [(.int .i64 0), (.int .i64 0), (.int .i64 0), (S ([] : List UInt8))]) Tryz.underlying176 rfl ti176 hH14 (zh 0 rfl) (CellsAt.one rfl)) (x := (.int .i64 0)) rfl (y := (.bool false)) rfl ?_)
  have hH15 : Has E w13 [R] := (hH14.front 1 rfl).first 1 rfl
  have ho : opensB s = false := opens_no1 (not_t h11)
  exact ⟨by unfold oF oN; rw [ho]; rfl, hH15⟩
 ·
  refine zn 17 rfl (congrArg Value.bool h11) (zd (v := (S s)) rfl ?_)
  refine zn 17 rfl (congrArg Value.bool h11) (yb Tryz.underlying9 rfl ?_)
  refine zn 17 rfl (congrArg Value.bool h11) (zd (v := (.int .i64 ((takeS s 1).1))) rfl ?_)
  refine zn 17 rfl (congrArg Value.bool h11) (zH (a := (takeS s 1).1) (b := 25) rfl rfl (w64 (by omega) (by omega)) ?_)
  refine zn 17 rfl (congrArg Value.bool h11) (zL (a := (s.length : Int)) (b := ((takeS s 1).1) + 25) rfl rfl ?_)
  refine za (zm (u := (.bool (decide ((s.length : Int) < ((takeS s 1).1) + 25)))) ((rfl : _ = _).trans (congrArg Value.bool h11)) rfl ?_)
  refine zf ?_
  refine zc (hK10 _ _ ?_)
  refine zt rfl (fun h16 => ?_) (fun h16 => ?_)
  ·
   refine wp_seq_k fun K17 hK17 => ?_
   refine zb ?_
   refine za (zK (v := (.agg #[(.int .i64 0), (.int .i64 0), (.int .i64 0), (S ([] : List UInt8))])) (fun _ => by kernel_rfl) ?_)
   refine zB (zw (vs := [(.int .i64 0), (.int .i64 0), (.int .i64 0), (S ([] : List UInt8))]) (c' := #[(.int .i64 0), (.int .i64 0), (.int .i64 0), (S ([] : List UInt8))]) ti176 rfl rfl rfl rfl (by intro u hu; simp only [List.mem_cons, List.not_mem_nil, or_false] at hu; rcases hu with rfl | rfl | rfl | rfl <;> first | rfl) (by simp) (by kernel_rfl) (hH7.front 0 rfl) fun w18 hH19 => ?_)
   refine za (ze (v := (.int .i64 0)) rfl ?_)
   refine za (ze (v := (.bool false)) rfl ?_)
   refine zf ?_
   refine zc (hK17 _ _ ?_)
   refine wp_ret ?_
   refine zv (c_retC3 Tryz.results193 rfl (zy (cs := [(.int .i64 0), (.int .i64 0), (.int .i64 0), (S ([] : List UInt8))]) Tryz.underlying176 rfl ti176 hH19 (zh 0 rfl) (CellsAt.one rfl)) (x := (.int .i64 0)) rfl (y := (.bool false)) rfl ?_)
   have hH20 : Has E w18 [R] := (hH19.front 1 rfl).first 1 rfl
   have ho : opensB s = false := opens_no2 (by omega)
   exact ⟨by unfold oF oN; rw [ho]; rfl, hH20⟩
  ·
   refine wp_skip ?_
   refine zc (hK9 _ _ ?_)
   refine wp_seq_k fun K21 hK21 => ?_
   refine zb ?_
   refine za (zU (cs := #[(.int .i64 0), (.int .i64 0), (.int .i64 0), (S ([] : List UInt8))]) ti176 rfl hH7 fun b22 w23 hH24 => ?_)
   refine zf ?_
   refine zc (hK21 _ _ ?_)
   refine wp_seq_k fun K25 hK25 => ?_
   refine zb ?_
   refine za (zd (v := (S ((takeS s 1).2.1))) rfl ?_)
   refine za (zk (vs := #[(S ((takeS s 1).2.1)), (.int .i64 4)]) ca276 rfl (zI rfl rfl) (take_c hH24.all 4 ((takeS s 1).2.1) (by first | omega | exact rest_le1 hsl | exact rest_le2 hsl | exact rest_le3 hsl)) ?_)
   rintro _ w28 ⟨rfl, hX26⟩
   refine ⟨_, rfl, ?_⟩
   have hH27 := hX26.of_all
   refine za (zd (v := (.tuple #[(.int .i64 ((takeS ((takeS s 1).2.1) 4).1)), (S ((takeS ((takeS s 1).2.1) 4).2.1)), (.bool ((takeS ((takeS s 1).2.1) 4).2.2))])) rfl ?_)
   refine za (zp (v := (.int .i64 ((takeS ((takeS s 1).2.1) 4).1))) rfl rfl ?_)
   refine za (zp (v := (S ((takeS ((takeS s 1).2.1) 4).2.1))) rfl rfl ?_)
   refine za (zp (v := (.bool ((takeS ((takeS s 1).2.1) 4).2.2))) rfl rfl ?_)
   refine za (zg (k := 0) (fun _ => by kernel_rfl) rfl ?_)
   refine zB (zJ (c' := #[(.int .i64 ((takeS ((takeS s 1).2.1) 4).1)), (.int .i64 0), (.int .i64 0), (S ([] : List UInt8))]) ti3 rfl rfl rfl (by simp) rfl (hH27.front 0 rfl) fun w29 hH30 => ?_)
   refine za (ze (v := (S ((takeS ((takeS s 1).2.1) 4).2.1))) rfl ?_)
   refine zf ?_
   refine zc (hK25 _ _ ?_)
   refine wp_seq_k fun K31 hK31 => ?_
   refine zb ?_
   refine za (zd (v := (S ((takeS ((takeS s 1).2.1) 4).2.1))) rfl ?_)
   refine za (zk (vs := #[(S ((takeS ((takeS s 1).2.1) 4).2.1)), (.int .i64 8)]) ca276 rfl (zI rfl rfl) (take_c hH30.all 8 ((takeS ((takeS s 1).2.1) 4).2.1) (by first | omega | exact rest_le1 hsl | exact rest_le2 hsl | exact rest_le3 hsl)) ?_)
   rintro _ w34 ⟨rfl, hX32⟩
   refine ⟨_, rfl, ?_⟩
   have hH33 := hX32.of_all
   refine za (zd (v := (.tuple #[(.int .i64 ((takeS ((takeS ((takeS s 1).2.1) 4).2.1) 8).1)), (S ((takeS ((takeS ((takeS s 1).2.1) 4).2.1) 8).2.1)), (.bool ((takeS ((takeS ((takeS s 1).2.1) 4).2.1) 8).2.2))])) rfl ?_)
   refine za (zp (v := (.int .i64 ((takeS ((takeS ((takeS s 1).2.1) 4).2.1) 8).1))) rfl rfl ?_)
   refine za (zp (v := (S ((takeS ((takeS ((takeS s 1).2.1) 4).2.1) 8).2.1))) rfl rfl ?_)
   refine za (zp (v := (.bool ((takeS ((takeS ((takeS s 1).2.1) 4).2.1) 8).2.2))) rfl rfl ?_)
   refine za (zg (k := 1) (fun _ => by kernel_rfl) rfl ?_)
   refine zB (zJ (c' := #[(.int .i64 ((takeS ((takeS s 1).2.1) 4).1)), (.int .i64 ((takeS ((takeS ((takeS s 1).2.1) 4).2.1) 8).1)), (.int .i64 0), (S ([] : List UInt8))]) ti3 rfl rfl rfl (by simp) rfl (hH33.front 0 rfl) fun w35 hH36 => ?_)
   refine za (ze (v := (S ((takeS ((takeS ((takeS s 1).2.1) 4).2.1) 8).2.1))) rfl ?_)
   refine zf ?_
   refine zc (hK31 _ _ ?_)
   refine wp_seq_k fun K37 hK37 => ?_
   refine zb ?_
   refine za (zd (v := (S ((takeS ((takeS ((takeS s 1).2.1) 4).2.1) 8).2.1))) rfl ?_)
   refine za (zk (vs := #[(S ((takeS ((takeS ((takeS s 1).2.1) 4).2.1) 8).2.1)), (.int .i64 8)]) ca276 rfl (zI rfl rfl) (take_c hH36.all 8 ((takeS ((takeS ((takeS s 1).2.1) 4).2.1) 8).2.1) (by first | omega | exact rest_le1 hsl | exact rest_le2 hsl | exact rest_le3 hsl)) ?_)
   rintro _ w40 ⟨rfl, hX38⟩
   refine ⟨_, rfl, ?_⟩
   have hH39 := hX38.of_all
   refine za (zd (v := (.tuple #[(.int .i64 ((takeS ((takeS ((takeS ((takeS s 1).2.1) 4).2.1) 8).2.1) 8).1)), (S ((takeS ((takeS ((takeS ((takeS s 1).2.1) 4).2.1) 8).2.1) 8).2.1)), (.bool ((takeS ((takeS ((takeS ((takeS s 1).2.1) 4).2.1) 8).2.1) 8).2.2))])) rfl ?_)
   refine za (zp (v := (.int .i64 ((takeS ((takeS ((takeS ((takeS s 1).2.1) 4).2.1) 8).2.1) 8).1))) rfl rfl ?_)
   refine za (zp (v := (S ((takeS ((takeS ((takeS ((takeS s 1).2.1) 4).2.1) 8).2.1) 8).2.1))) rfl rfl ?_)
   refine za (zp (v := (.bool ((takeS ((takeS ((takeS ((takeS s 1).2.1) 4).2.1) 8).2.1) 8).2.2))) rfl rfl ?_)
   refine za (zg (k := 2) (fun _ => by kernel_rfl) rfl ?_)
   refine zB (zJ (c' := #[(.int .i64 ((takeS ((takeS s 1).2.1) 4).1)), (.int .i64 ((takeS ((takeS ((takeS s 1).2.1) 4).2.1) 8).1)), (.int .i64 ((takeS ((takeS ((takeS ((takeS s 1).2.1) 4).2.1) 8).2.1) 8).1)), (S ([] : List UInt8))]) ti3 rfl rfl rfl (by simp) rfl (hH39.front 0 rfl) fun w41 hH42 => ?_)
   refine za (ze (v := (S ((takeS ((takeS ((takeS ((takeS s 1).2.1) 4).2.1) 8).2.1) 8).2.1))) rfl ?_)
   refine zf ?_
   refine zc (hK37 _ _ ?_)
   refine wp_seq_k fun K43 hK43 => ?_
   refine zb ?_
   refine za (zd (v := (S s)) rfl ?_)
   refine za (zd (v := (.int .i64 ((takeS s 1).1))) rfl ?_)
   refine za (zH (a := 21) (b := (takeS s 1).1) rfl rfl (w64 (by omega) (by omega)) ?_)
   refine za (o_ssl Tryz.underlying9 rfl rfl rfl (by omega) (by omega) (by omega) ?_)
   refine za (zg (k := 3) (fun _ => by kernel_rfl) rfl ?_)
   refine zB (zJ (c' := #[(.int .i64 ((takeS ((takeS s 1).2.1) 4).1)), (.int .i64 ((takeS ((takeS ((takeS s 1).2.1) 4).2.1) 8).1)), (.int .i64 ((takeS ((takeS ((takeS ((takeS s 1).2.1) 4).2.1) 8).2.1) 8).1)), (S ((s.take (21 + ((takeS s 1).1)).toNat).drop 21))]) ti9 rfl rfl rfl (by simp) rfl (hH42.front 0 rfl) fun w44 hH45 => ?_)
   refine zf ?_
   refine zc (hK43 _ _ ?_)
   refine wp_seq_k fun K46 hK46 => ?_
   refine wp_seq_k fun K47 hK47 => ?_
   refine Rest.region mixed (by kernel_rfl) ?_
   have hH48 : Has E { w44 with drawn := w44.drawn + 1 } [[Hp.one b22 (.cells #[(.int .i64 ((takeS ((takeS s 1).2.1) 4).1)), (.int .i64 ((takeS ((takeS ((takeS s 1).2.1) 4).2.1) 8).1)), (.int .i64 ((takeS ((takeS ((takeS ((takeS s 1).2.1) 4).2.1) 8).2.1) 8).1)), (S ((s.take (21 + ((takeS s 1).1)).toNat).drop 21))] 176 (0, 0))], [Hp.one b2 (.cells #[(.int .i64 0), (.int .i64 0), (.int .i64 0), (S ([] : List UInt8))] 176 (0, 0))], R] := Has0.drew hH45 _
   refine zP 0 rfl (by kernel_rfl) (zC (cs := [(.int .i64 ((takeS ((takeS s 1).2.1) 4).1)), (.int .i64 ((takeS ((takeS ((takeS s 1).2.1) 4).2.1) 8).1)), (.int .i64 ((takeS ((takeS ((takeS ((takeS s 1).2.1) 4).2.1) 8).2.1) 8).1)), (S ((s.take (21 + ((takeS s 1).1)).toNat).drop 21))]) Tryz.underlying176 rfl ti176 rfl hH48 (zh 0 rfl) (CellsAt.one rfl) ?_)
   refine zP 1 rfl (by kernel_rfl) (zk (vs := #[(.agg #[(.int .i64 ((takeS ((takeS s 1).2.1) 4).1)), (.int .i64 ((takeS ((takeS ((takeS s 1).2.1) 4).2.1) 8).1)), (.int .i64 ((takeS ((takeS ((takeS ((takeS s 1).2.1) 4).2.1) 8).2.1) 8).1)), (S ((s.take (21 + ((takeS s 1).1)).toNat).drop 21))])]) ca197 rfl (zF rfl) (right_c hH48.all (Fr.mk ((takeS ((takeS s 1).2.1) 4).1) ((takeS ((takeS ((takeS s 1).2.1) 4).2.1) 8).1) ((takeS ((takeS ((takeS ((takeS s 1).2.1) 4).2.1) 8).2.1) 8).1) ((s.take (21 + ((takeS s 1).1)).toNat).drop 21)) (by simp only [List.length_drop, List.length_take]; omega)) ?_)
   rintro _ w51 ⟨rfl, hX49⟩
   refine ⟨_, rfl, ?_⟩
   have hH50 := hX49.of_all
   refine zP 2 rfl (by kernel_rfl) (o_not rfl ?_)
   refine zP 3 rfl (by kernel_rfl) (zd (v := (.bool (!(rightS (Fr.mk ((takeS ((takeS s 1).2.1) 4).1) ((takeS ((takeS ((takeS s 1).2.1) 4).2.1) 8).1) ((takeS ((takeS ((takeS ((takeS s 1).2.1) 4).2.1) 8).2.1) 8).1) ((s.take (21 + ((takeS s 1).1)).toNat).drop 21)))))) rfl ?_)
   refine Rest.phaseA (fun w_ => Has E w_ [[Hp.one b22 (.cells #[(.int .i64 ((takeS ((takeS s 1).2.1) 4).1)), (.int .i64 ((takeS ((takeS ((takeS s 1).2.1) 4).2.1) 8).1)), (.int .i64 ((takeS ((takeS ((takeS ((takeS s 1).2.1) 4).2.1) 8).2.1) 8).1)), (S ((s.take (21 + ((takeS s 1).1)).toNat).drop 21))] 176 (0, 0))]]) 4 10 6 rfl (by decide) (by kernel_rfl) ?_
   rcases Bool.eq_false_or_eq_true (!(rightS (Fr.mk ((takeS ((takeS s 1).2.1) 4).1) ((takeS ((takeS ((takeS s 1).2.1) 4).2.1) 8).1) ((takeS ((takeS ((takeS ((takeS s 1).2.1) 4).2.1) 8).2.1) 8).1) ((s.take (21 + ((takeS s 1).1)).toNat).drop 21)))) with h52 | h52
   ·
    refine yf (b' := true) 4 rfl (by kernel_rfl) 54 rfl (congrArg Value.bool h52) rfl ?_
    refine yf (b' := true) 6 rfl (by kernel_rfl) 54 rfl (congrArg Value.bool h52) rfl ?_
    refine yf (b' := true) 7 rfl (by kernel_rfl) 54 rfl (congrArg Value.bool h52) rfl ?_
    refine yf (b' := true) 8 rfl (by kernel_rfl) 54 rfl (congrArg Value.bool h52) rfl ?_
    refine yf (b' := true) 9 rfl (by kernel_rfl) 54 rfl (congrArg Value.bool h52) rfl ?_
    refine yf (b' := true) 5 rfl (by kernel_rfl) 54 rfl (congrArg Value.bool h52) rfl ?_
    have hH53 : Has E w51 [[Hp.one b22 (.cells #[(.int .i64 ((takeS ((takeS s 1).2.1) 4).1)), (.int .i64 ((takeS ((takeS ((takeS s 1).2.1) 4).2.1) 8).1)), (.int .i64 ((takeS ((takeS ((takeS ((takeS s 1).2.1) 4).2.1) 8).2.1) 8).1)), (S ((s.take (21 + ((takeS s 1).1)).toNat).drop 21))] 176 (0, 0))]] := hH50.first 1 rfl
    refine zQ (by kernel_rfl) hH53 ?_
    refine r_off (b' := true) 10 rfl (by kernel_rfl) 54 rfl (congrArg Value.bool h52) rfl ?_
    refine zP 11 rfl (by kernel_rfl) (zo (u := (.bool true)) ((rfl : _ = _).trans (congrArg Value.bool h52)) rfl ?_)
    refine Rest.done (by kernel_rfl) ?_
    refine zc (hK47 _ _ ?_)
    refine zN rfl rfl ?_
    refine wp_seq_k fun K54 hK54 => ?_
    refine zb ?_
    refine za (zK (v := (.agg #[(.int .i64 0), (.int .i64 0), (.int .i64 0), (S ([] : List UInt8))])) (fun _ => by kernel_rfl) ?_)
    refine zB (zw (vs := [(.int .i64 0), (.int .i64 0), (.int .i64 0), (S ([] : List UInt8))]) (c' := #[(.int .i64 0), (.int .i64 0), (.int .i64 0), (S ([] : List UInt8))]) ti176 rfl rfl rfl rfl (by intro u hu; simp only [List.mem_cons, List.not_mem_nil, or_false] at hu; rcases hu with rfl | rfl | rfl | rfl <;> first | rfl) (by simp) (by kernel_rfl) (hH50.front 1 rfl) fun w55 hH56 => ?_)
    refine za (ze (v := (.int .i64 0)) rfl ?_)
    refine za (ze (v := (.bool false)) rfl ?_)
    refine zf ?_
    refine zc (hK54 _ _ ?_)
    refine wp_ret ?_
    refine zv (c_retC3 Tryz.results193 rfl (zy (cs := [(.int .i64 0), (.int .i64 0), (.int .i64 0), (S ([] : List UInt8))]) Tryz.underlying176 rfl ti176 hH56 (zh 0 rfl) (CellsAt.one rfl)) (x := (.int .i64 0)) rfl (y := (.bool false)) rfl ?_)
    have hH57 : Has E w55 [R] := (hH56.front 2 rfl).first 1 rfl
    have ho : opensB s = false := opens_no3 (not_t h52)
    exact ⟨by unfold oF oN; rw [ho]; rfl, hH57⟩
   ·
    refine a_on 4 rfl (by kernel_rfl) 54 rfl (congrArg Value.bool h52) (fun w_ h_ => zC (cs := [(.int .i64 ((takeS ((takeS s 1).2.1) 4).1)), (.int .i64 ((takeS ((takeS ((takeS s 1).2.1) 4).2.1) 8).1)), (.int .i64 ((takeS ((takeS ((takeS ((takeS s 1).2.1) 4).2.1) 8).2.1) 8).1)), (S ((s.take (21 + ((takeS s 1).1)).toNat).drop 21))]) Tryz.underlying176 rfl ti176 rfl h_ (zh 0 rfl) (CellsAt.one rfl) ⟨rfl, rfl⟩) ?_
    refine a_on 6 rfl (by kernel_rfl) 54 rfl (congrArg Value.bool h52) (fun w_ h_ => zd (v := (S s)) rfl ⟨rfl, rfl⟩) ?_
    refine a_on 7 rfl (by kernel_rfl) 54 rfl (congrArg Value.bool h52) (fun w_ h_ => zd (v := (.int .i64 ((takeS s 1).1))) rfl ⟨rfl, rfl⟩) ?_
    refine a_on 8 rfl (by kernel_rfl) 54 rfl (congrArg Value.bool h52) (fun w_ h_ => zH (a := (takeS s 1).1) (b := 25) rfl rfl (w64 (by omega) (by omega)) ⟨rfl, rfl⟩) ?_
    refine a_on 9 rfl (by kernel_rfl) 54 rfl (congrArg Value.bool h52) (fun w_ h_ => o_ssl_h Tryz.underlying9 rfl rfl (by omega) (by omega) ⟨rfl, rfl⟩) ?_
    have hH58 : Has E w51 [[Hp.one b22 (.cells #[(.int .i64 ((takeS ((takeS s 1).2.1) 4).1)), (.int .i64 ((takeS ((takeS ((takeS s 1).2.1) 4).2.1) 8).1)), (.int .i64 ((takeS ((takeS ((takeS ((takeS s 1).2.1) 4).2.1) 8).2.1) 8).1)), (S ((s.take (21 + ((takeS s 1).1)).toNat).drop 21))] 176 (0, 0))]] := hH50.first 1 rfl
    refine a_won 5 rfl (by kernel_rfl) hH58 54 rfl (congrArg Value.bool h52) (zk (vs := #[(.agg #[(.int .i64 ((takeS ((takeS s 1).2.1) 4).1)), (.int .i64 ((takeS ((takeS ((takeS s 1).2.1) 4).2.1) 8).1)), (.int .i64 ((takeS ((takeS ((takeS ((takeS s 1).2.1) 4).2.1) 8).2.1) 8).1)), (S ((s.take (21 + ((takeS s 1).1)).toNat).drop 21))]), (.slice none 0 0)]) ca107 rfl (zI rfl rfl) (make1_c hH50.all (hg.mono (zh 2 rfl)) (Fr.mk ((takeS ((takeS s 1).2.1) 4).1) ((takeS ((takeS ((takeS s 1).2.1) 4).2.1) 8).1) ((takeS ((takeS ((takeS ((takeS s 1).2.1) 4).2.1) 8).2.1) 8).1) ((s.take (21 + ((takeS s 1).1)).toNat).drop 21)) (by simp only [List.length_drop, List.length_take]; omega)) ?_)
    rintro _ w61 ⟨rfl, hX59⟩
    refine ⟨_, rfl, ?_⟩
    have hH60 := hX59.of_all
    have hH62 : Has E w61 [[Hp.one b22 (.cells #[(.int .i64 ((takeS ((takeS s 1).2.1) 4).1)), (.int .i64 ((takeS ((takeS ((takeS s 1).2.1) 4).2.1) 8).1)), (.int .i64 ((takeS ((takeS ((takeS ((takeS s 1).2.1) 4).2.1) 8).2.1) 8).1)), (S ((s.take (21 + ((takeS s 1).1)).toNat).drop 21))] 176 (0, 0))]] := hH60.first 1 rfl
    refine zQ (by kernel_rfl) hH62 ?_
    refine r_on 10 rfl (by kernel_rfl) 54 rfl (congrArg Value.bool h52) (o_sneq (a := (makeS (Fr.mk ((takeS ((takeS s 1).2.1) 4).1) ((takeS ((takeS ((takeS s 1).2.1) 4).2.1) 8).1) ((takeS ((takeS ((takeS ((takeS s 1).2.1) 4).2.1) 8).2.1) 8).1) ((s.take (21 + ((takeS s 1).1)).toNat).drop 21)))) (b := s.take (((takeS s 1).1) + 25).toNat) rfl rfl ?_)
    refine zP 11 rfl (by kernel_rfl) (zm (u := (.bool (decide ((makeS (Fr.mk ((takeS ((takeS s 1).2.1) 4).1) ((takeS ((takeS ((takeS s 1).2.1) 4).2.1) 8).1) ((takeS ((takeS ((takeS ((takeS s 1).2.1) 4).2.1) 8).2.1) 8).1) ((s.take (21 + ((takeS s 1).1)).toNat).drop 21))) ≠ s.take (((takeS s 1).1) + 25).toNat)))) ((rfl : _ = _).trans (congrArg Value.bool h52)) rfl ?_)
    refine Rest.done (by kernel_rfl) ?_
    refine zc (hK47 _ _ ?_)
    refine zt rfl (fun h63 => ?_) (fun h63 => ?_)
    ·
     refine wp_seq_k fun K64 hK64 => ?_
     refine zb ?_
     refine za (zK (v := (.agg #[(.int .i64 0), (.int .i64 0), (.int .i64 0), (S ([] : List UInt8))])) (fun _ => by kernel_rfl) ?_)
     refine zB (zw (vs := [(.int .i64 0), (.int .i64 0), (.int .i64 0), (S ([] : List UInt8))]) (c' := #[(.int .i64 0), (.int .i64 0), (.int .i64 0), (S ([] : List UInt8))]) ti176 rfl rfl rfl rfl (by intro u hu; simp only [List.mem_cons, List.not_mem_nil, or_false] at hu; rcases hu with rfl | rfl | rfl | rfl <;> first | rfl) (by simp) (by kernel_rfl) (hH60.front 1 rfl) fun w65 hH66 => ?_)
     refine za (ze (v := (.int .i64 0)) rfl ?_)
     refine za (ze (v := (.bool false)) rfl ?_)
     refine zf ?_
     refine zc (hK64 _ _ ?_)
     refine wp_ret ?_
     refine zv (c_retC3 Tryz.results193 rfl (zy (cs := [(.int .i64 0), (.int .i64 0), (.int .i64 0), (S ([] : List UInt8))]) Tryz.underlying176 rfl ti176 hH66 (zh 0 rfl) (CellsAt.one rfl)) (x := (.int .i64 0)) rfl (y := (.bool false)) rfl ?_)
     have hH67 : Has E w65 [R] := (hH66.front 2 rfl).first 1 rfl
     have ho : opensB s = false := opens_no4 h63
     exact ⟨by unfold oF oN; rw [ho]; rfl, hH67⟩
    ·
     refine wp_skip ?_
     refine zc (hK46 _ _ ?_)
     refine wp_seq_k fun K68 hK68 => ?_
     refine zb ?_
     refine za (zC (cs := [(.int .i64 ((takeS ((takeS s 1).2.1) 4).1)), (.int .i64 ((takeS ((takeS ((takeS s 1).2.1) 4).2.1) 8).1)), (.int .i64 ((takeS ((takeS ((takeS ((takeS s 1).2.1) 4).2.1) 8).2.1) 8).1)), (S ((s.take (21 + ((takeS s 1).1)).toNat).drop 21))]) Tryz.underlying176 rfl ti176 rfl hH60 (zh 0 rfl) (CellsAt.one rfl) ?_)
     refine za (zd (v := (.int .i64 ((takeS s 1).1))) rfl ?_)
     refine za (zH (a := (takeS s 1).1) (b := 25) rfl rfl (w64 (by omega) (by omega)) ?_)
     refine zB (zw (vs := [(.int .i64 ((takeS ((takeS s 1).2.1) 4).1)), (.int .i64 ((takeS ((takeS ((takeS s 1).2.1) 4).2.1) 8).1)), (.int .i64 ((takeS ((takeS ((takeS ((takeS s 1).2.1) 4).2.1) 8).2.1) 8).1)), (S ((s.take (21 + ((takeS s 1).1)).toNat).drop 21))]) (c' := #[(.int .i64 ((takeS ((takeS s 1).2.1) 4).1)), (.int .i64 ((takeS ((takeS ((takeS s 1).2.1) 4).2.1) 8).1)), (.int .i64 ((takeS ((takeS ((takeS ((takeS s 1).2.1) 4).2.1) 8).2.1) 8).1)), (S ((s.take (21 + ((takeS s 1).1)).toNat).drop 21))]) ti176 rfl rfl rfl rfl (by intro u hu; simp only [List.mem_cons, List.not_mem_nil, or_false] at hu; rcases hu with rfl | rfl | rfl | rfl <;> first | rfl) (by simp) (by kernel_rfl) (hH60.front 1 rfl) fun w69 hH70 => ?_)
     refine za (ze (v := (.int .i64 (((takeS s 1).1) + 25))) rfl ?_)
     refine za (ze (v := (.bool true)) rfl ?_)
     refine zf ?_
     refine zc (hK68 _ _ ?_)
     refine wp_ret ?_
     refine c_retC3 Tryz.results193 rfl (zy (cs := [(.int .i64 ((takeS ((takeS s 1).2.1) 4).1)), (.int .i64 ((takeS ((takeS ((takeS s 1).2.1) 4).2.1) 8).1)), (.int .i64 ((takeS ((takeS ((takeS ((takeS s 1).2.1) 4).2.1) 8).2.1) 8).1)), (S ((s.take (21 + ((takeS s 1).1)).toNat).drop 21))]) Tryz.underlying176 rfl ti176 hH70 (zh 0 rfl) (CellsAt.one rfl)) (x := (.int .i64 (((takeS s 1).1) + 25))) rfl (y := (.bool true)) rfl ?_
     have hH71 : Has E w69 [R] := (hH70.front 2 rfl).first 1 rfl
     have ho : opensB s = true := opens_yes (not_f h11) (by omega) (not_f h52) (Classical.not_not.1 h63)
     exact ⟨by unfold oF oN; rw [if_pos ho, if_pos ho, ho]; rfl, hH71⟩
set_option maxHeartbeats 4000000 in
theorem ffits_c {E w : World} {R : List Hp} (hH : Has E w [R]) (f : Fr) (hfl : f.data.length ≤ 9223372036854775807) (re rc pl ab : Int) :
  Calls Tryz.prog 194 #[(.agg #[(.int .i64 re), (.int .i64 rc)]), (.agg #[(.int .i64 f.ep), (.int .i64 f.pl), (.int .i64 f.gsn), (S f.data)]), (.int .i64 pl), (.int .i64 ab)] w fun e w' => e = .returned (.bool (fitsF re rc pl ab f)) ∧ Has E w' [R] := by
 refine zs (args := [(.agg #[(.int .i64 re), (.int .i64 rc)]), (.agg #[(.int .i64 f.ep), (.int .i64 f.pl), (.int .i64 f.gsn), (S f.data)]), (.int .i64 pl), (.int .i64 ab)]) Tryz.func194 rfl Tryz.ntmps194 (by simp) ?_
 refine wp_seq_k fun K1 hK1 => ?_
 refine zb ?_
 refine za (o_box (cs := #[(.int .i64 re), (.int .i64 rc)]) rfl rfl hH fun b2 w3 hH4 => ?_)
 refine za (o_box (cs := #[(.int .i64 f.ep), (.int .i64 f.pl), (.int .i64 f.gsn), (S f.data)]) rfl rfl hH4 fun b5 w6 hH7 => ?_)
 refine za (ze (v := (.bool false)) rfl ?_)
 refine zf ?_
 refine zc (hK1 _ _ ?_)
 refine wp_seq_k fun K8 hK8 => ?_
 refine zb ?_
 refine za (zC (cs := [(.int .i64 f.ep), (.int .i64 f.pl), (.int .i64 f.gsn), (S f.data)]) Tryz.underlying176 rfl ti176 rfl hH7 (zh 0 rfl) (CellsAt.one rfl) ?_)
 refine za (zk (vs := #[(.agg #[(.int .i64 f.ep), (.int .i64 f.pl), (.int .i64 f.gsn), (S f.data)])]) ca197 rfl (zF rfl) (right_c hH7.all f (by omega)) ?_)
 rintro _ w11 ⟨rfl, hX9⟩
 refine ⟨_, rfl, ?_⟩
 have hH10 := hX9.of_all
 refine za (zd (v := (.bool (rightS f))) rfl ?_)
 rcases Bool.eq_false_or_eq_true (rightS f) with h12 | h12
 ·
  refine zn 11 rfl (congrArg Value.bool h12) (zg (k := 1) (fun _ => by kernel_rfl) rfl ?_)
  refine zn 11 rfl (congrArg Value.bool h12) (zj (v := (.int .i64 f.pl)) Tryz.underlying3 rfl rfl hH10 (zh 0 rfl) (CellsAt.one rfl) ?_)
  refine zn 11 rfl (congrArg Value.bool h12) (zd (v := (.int .i64 pl)) rfl ?_)
  refine zn 11 rfl (congrArg Value.bool h12) (yd (a := f.pl) (b := pl) rfl rfl ?_)
  refine za (zo (u := (.bool (decide (f.pl = pl)))) ((rfl : _ = _).trans (congrArg Value.bool h12)) rfl ?_)
  refine za (zd (v := (.bool (decide (f.pl = pl)))) rfl ?_)
  by_cases h13 : f.pl = pl
  ·
   refine zn 17 rfl (cT h13) (zg (k := 2) (fun _ => by kernel_rfl) rfl ?_)
   refine zn 17 rfl (cT h13) (zj (v := (.int .i64 f.gsn)) Tryz.underlying3 rfl rfl hH10 (zh 0 rfl) (CellsAt.one rfl) ?_)
   refine zn 17 rfl (cT h13) (zd (v := (.int .i64 ab)) rfl ?_)
   refine zn 17 rfl (cT h13) (o_gtr (a := f.gsn) (b := ab) rfl rfl ?_)
   refine za (zo (u := (.bool (decide (ab < f.gsn)))) ((rfl : _ = _).trans (cT h13)) rfl ?_)
   refine za (zd (v := (.bool (decide (ab < f.gsn)))) rfl ?_)
   by_cases h14 : ab < f.gsn
   ·
    refine zn 23 rfl (cT h14) (zg (k := 0) (fun _ => by kernel_rfl) rfl ?_)
    refine zn 23 rfl (cT h14) (zj (v := (.int .i64 f.ep)) Tryz.underlying3 rfl rfl hH10 (zh 0 rfl) (CellsAt.one rfl) ?_)
    refine zn 23 rfl (cT h14) (zg (k := 0) (fun _ => by kernel_rfl) rfl ?_)
    refine zn 23 rfl (cT h14) (zj (v := (.int .i64 re)) Tryz.underlying3 rfl rfl hH10 (zh 1 rfl) (CellsAt.one rfl) ?_)
    refine zn 23 rfl (cT h14) (o_leq (a := f.ep) (b := re) rfl rfl ?_)
    refine za (zo (u := (.bool (decide (f.ep ≤ re)))) ((rfl : _ = _).trans (cT h14)) rfl ?_)
    refine za (zd (v := (.bool (decide (f.ep ≤ re)))) rfl ?_)
    by_cases h15 : f.ep ≤ re
    ·
     refine zn 30 rfl (cT h15) (zg (k := 1) (fun _ => by kernel_rfl) rfl ?_)
     refine zn 30 rfl (cT h15) (zj (v := (.int .i64 f.pl)) Tryz.underlying3 rfl rfl hH10 (zh 0 rfl) (CellsAt.one rfl) ?_)
     refine zn 30 rfl (cT h15) (zg (k := 1) (fun _ => by kernel_rfl) rfl ?_)
     refine zn 30 rfl (cT h15) (zj (v := (.int .i64 rc)) Tryz.underlying3 rfl rfl hH10 (zh 1 rfl) (CellsAt.one rfl) ?_)
     refine zn 30 rfl (cT h15) (zL (a := f.pl) (b := rc) rfl rfl ?_)
     refine zn 30 rfl (cT h15) (zd (v := (.bool (decide (f.pl < rc)))) rfl ?_)
     by_cases h16 : f.pl < rc
     ·
      refine zi (b' := true) 36 rfl (cT h16) rfl ?_
      refine zi (b' := true) 36 rfl (cT h16) rfl ?_
      refine zi (b' := true) 36 rfl (cT h16) rfl ?_
      refine zi (b' := true) 36 rfl (cT h16) rfl ?_
      refine zi (b' := true) 36 rfl (cT h16) rfl ?_
      refine zn 30 rfl (cT h15) (zo (u := (.bool true)) ((rfl : _ = _).trans (cT h16)) rfl ?_)
      refine za (zo (u := (.bool true)) ((rfl : _ = _).trans (cT h15)) rfl ?_)
      refine za (ze (v := (.bool true)) rfl ?_)
      refine zf ?_
      refine zc (hK8 _ _ ?_)
      refine wp_ret ?_
      refine zq Tryz.results194  (v := (.bool true)) rfl ?_
      have hH17 : Has E w11 [R] := (hH10.front 2 rfl).first 1 rfl
      exact ⟨by rw [fitsF, h12, Bool.true_and]; exact congrArg (fun b => Ending.returned (.bool b)) ((decide_eq_true (by omega)).symm), hH17⟩
     ·
      refine zn 36 rfl (cF h16) (zg (k := 0) (fun _ => by kernel_rfl) rfl ?_)
      refine zn 36 rfl (cF h16) (zj (v := (.int .i64 f.ep)) Tryz.underlying3 rfl rfl hH10 (zh 0 rfl) (CellsAt.one rfl) ?_)
      refine zn 36 rfl (cF h16) (zg (k := 0) (fun _ => by kernel_rfl) rfl ?_)
      refine zn 36 rfl (cF h16) (zj (v := (.int .i64 re)) Tryz.underlying3 rfl rfl hH10 (zh 1 rfl) (CellsAt.one rfl) ?_)
      refine zn 36 rfl (cF h16) (yd (a := f.ep) (b := re) rfl rfl ?_)
      refine zn 30 rfl (cT h15) (zm (u := (.bool (decide (f.ep = re)))) ((rfl : _ = _).trans (cF h16)) rfl ?_)
      refine za (zo (u := (.bool (decide (f.ep = re)))) ((rfl : _ = _).trans (cT h15)) rfl ?_)
      refine za (ze (v := (.bool (decide (f.ep = re)))) rfl ?_)
      refine zf ?_
      refine zc (hK8 _ _ ?_)
      refine wp_ret ?_
      refine zq Tryz.results194  (v := (.bool (decide (f.ep = re)))) rfl ?_
      have hH18 : Has E w11 [R] := (hH10.front 2 rfl).first 1 rfl
      exact ⟨by rw [fitsF, h12, Bool.true_and]; exact congrArg (fun b => Ending.returned (.bool b)) (decide_eq_decide.2 (by omega)), hH18⟩
    ·
     refine zi (b' := false) 30 rfl (cF h15) rfl ?_
     refine zi (b' := false) 30 rfl (cF h15) rfl ?_
     refine zi (b' := false) 30 rfl (cF h15) rfl ?_
     refine zi (b' := false) 30 rfl (cF h15) rfl ?_
     refine zi (b' := false) 30 rfl (cF h15) rfl ?_
     refine zi (b' := false) 30 rfl (cF h15) rfl ?_
     refine zA 36 rfl rfl ?_
     refine zA 36 rfl rfl ?_
     refine zA 36 rfl rfl ?_
     refine zA 36 rfl rfl ?_
     refine zA 36 rfl rfl ?_
     refine zi (b' := false) 30 rfl (cF h15) rfl ?_
     refine za (zm (u := (.bool false)) ((rfl : _ = _).trans (cF h15)) rfl ?_)
     refine za (ze (v := (.bool false)) rfl ?_)
     refine zf ?_
     refine zc (hK8 _ _ ?_)
     refine wp_ret ?_
     refine zq Tryz.results194  (v := (.bool false)) rfl ?_
     have hH19 : Has E w11 [R] := (hH10.front 2 rfl).first 1 rfl
     exact ⟨by rw [fitsF, h12, Bool.true_and]; exact congrArg (fun b => Ending.returned (.bool b)) ((decide_eq_false (by omega)).symm), hH19⟩
   ·
    refine zi (b' := false) 23 rfl (cF h14) rfl ?_
    refine zi (b' := false) 23 rfl (cF h14) rfl ?_
    refine zi (b' := false) 23 rfl (cF h14) rfl ?_
    refine zi (b' := false) 23 rfl (cF h14) rfl ?_
    refine zi (b' := false) 23 rfl (cF h14) rfl ?_
    refine za (zm (u := (.bool false)) ((rfl : _ = _).trans (cF h14)) rfl ?_)
    refine za (zd (v := (.bool false)) rfl ?_)
    refine zi (b' := false) 30 rfl rfl rfl ?_
    refine zi (b' := false) 30 rfl rfl rfl ?_
    refine zi (b' := false) 30 rfl rfl rfl ?_
    refine zi (b' := false) 30 rfl rfl rfl ?_
    refine zi (b' := false) 30 rfl rfl rfl ?_
    refine zi (b' := false) 30 rfl rfl rfl ?_
    refine zA 36 rfl rfl ?_
    refine zA 36 rfl rfl ?_
    refine zA 36 rfl rfl ?_
    refine zA 36 rfl rfl ?_
    refine zA 36 rfl rfl ?_
    refine zi (b' := false) 30 rfl rfl rfl ?_
    refine za (zm (u := (.bool false)) rfl rfl ?_)
    refine za (ze (v := (.bool false)) rfl ?_)
    refine zf ?_
    refine zc (hK8 _ _ ?_)
    refine wp_ret ?_
    refine zq Tryz.results194  (v := (.bool false)) rfl ?_
    have hH20 : Has E w11 [R] := (hH10.front 2 rfl).first 1 rfl
    exact ⟨by rw [fitsF, h12, Bool.true_and]; exact congrArg (fun b => Ending.returned (.bool b)) ((decide_eq_false (by omega)).symm), hH20⟩
  ·
   refine zi (b' := false) 17 rfl (cF h13) rfl ?_
   refine zi (b' := false) 17 rfl (cF h13) rfl ?_
   refine zi (b' := false) 17 rfl (cF h13) rfl ?_
   refine zi (b' := false) 17 rfl (cF h13) rfl ?_
   refine za (zm (u := (.bool false)) ((rfl : _ = _).trans (cF h13)) rfl ?_)
   refine za (zd (v := (.bool false)) rfl ?_)
   refine zi (b' := false) 23 rfl rfl rfl ?_
   refine zi (b' := false) 23 rfl rfl rfl ?_
   refine zi (b' := false) 23 rfl rfl rfl ?_
   refine zi (b' := false) 23 rfl rfl rfl ?_
   refine zi (b' := false) 23 rfl rfl rfl ?_
   refine za (zm (u := (.bool false)) rfl rfl ?_)
   refine za (zd (v := (.bool false)) rfl ?_)
   refine zi (b' := false) 30 rfl rfl rfl ?_
   refine zi (b' := false) 30 rfl rfl rfl ?_
   refine zi (b' := false) 30 rfl rfl rfl ?_
   refine zi (b' := false) 30 rfl rfl rfl ?_
   refine zi (b' := false) 30 rfl rfl rfl ?_
   refine zi (b' := false) 30 rfl rfl rfl ?_
   refine zA 36 rfl rfl ?_
   refine zA 36 rfl rfl ?_
   refine zA 36 rfl rfl ?_
   refine zA 36 rfl rfl ?_
   refine zA 36 rfl rfl ?_
   refine zi (b' := false) 30 rfl rfl rfl ?_
   refine za (zm (u := (.bool false)) rfl rfl ?_)
   refine za (ze (v := (.bool false)) rfl ?_)
   refine zf ?_
   refine zc (hK8 _ _ ?_)
   refine wp_ret ?_
   refine zq Tryz.results194  (v := (.bool false)) rfl ?_
   have hH21 : Has E w11 [R] := (hH10.front 2 rfl).first 1 rfl
   exact ⟨by rw [fitsF, h12, Bool.true_and]; exact congrArg (fun b => Ending.returned (.bool b)) ((decide_eq_false (by omega)).symm), hH21⟩
 ·
  refine zi (b' := false) 11 rfl (congrArg Value.bool h12) rfl ?_
  refine zi (b' := false) 11 rfl (congrArg Value.bool h12) rfl ?_
  refine zi (b' := false) 11 rfl (congrArg Value.bool h12) rfl ?_
  refine zi (b' := false) 11 rfl (congrArg Value.bool h12) rfl ?_
  refine za (zm (u := (.bool false)) ((rfl : _ = _).trans (congrArg Value.bool h12)) rfl ?_)
  refine za (zd (v := (.bool false)) rfl ?_)
  refine zi (b' := false) 17 rfl rfl rfl ?_
  refine zi (b' := false) 17 rfl rfl rfl ?_
  refine zi (b' := false) 17 rfl rfl rfl ?_
  refine zi (b' := false) 17 rfl rfl rfl ?_
  refine za (zm (u := (.bool false)) rfl rfl ?_)
  refine za (zd (v := (.bool false)) rfl ?_)
  refine zi (b' := false) 23 rfl rfl rfl ?_
  refine zi (b' := false) 23 rfl rfl rfl ?_
  refine zi (b' := false) 23 rfl rfl rfl ?_
  refine zi (b' := false) 23 rfl rfl rfl ?_
  refine zi (b' := false) 23 rfl rfl rfl ?_
  refine za (zm (u := (.bool false)) rfl rfl ?_)
  refine za (zd (v := (.bool false)) rfl ?_)
  refine zi (b' := false) 30 rfl rfl rfl ?_
  refine zi (b' := false) 30 rfl rfl rfl ?_
  refine zi (b' := false) 30 rfl rfl rfl ?_
  refine zi (b' := false) 30 rfl rfl rfl ?_
  refine zi (b' := false) 30 rfl rfl rfl ?_
  refine zi (b' := false) 30 rfl rfl rfl ?_
  refine zA 36 rfl rfl ?_
  refine zA 36 rfl rfl ?_
  refine zA 36 rfl rfl ?_
  refine zA 36 rfl rfl ?_
  refine zA 36 rfl rfl ?_
  refine zi (b' := false) 30 rfl rfl rfl ?_
  refine za (zm (u := (.bool false)) rfl rfl ?_)
  refine za (ze (v := (.bool false)) rfl ?_)
  refine zf ?_
  refine zc (hK8 _ _ ?_)
  refine wp_ret ?_
  refine zq Tryz.results194  (v := (.bool false)) rfl ?_
  have hH22 : Has E w11 [R] := (hH10.front 2 rfl).first 1 rfl
  exact ⟨by rw [fitsF, h12]; rfl, hH22⟩
end Go.Q
namespace Go.Q
open Go.Proofs
set_option linter.unusedVariables false
set_option maxRecDepth 100000
attribute [local irreducible] wpList OK Code.wp
set_option maxHeartbeats 4000000 in
theorem chain_c {E w : World} {R : List Hp} (hH : Has E w [R]) (hg : CellsAt R 0 0 nibV) (t : List UInt8) (htl : t.length ≤ 1000000) (re rc pl ab : Int) (hpl0 : -9000000000000000000 ≤ pl ∧ pl ≤ 9000000000000000000) :
  Calls Tryz.prog 100 #[(.agg #[(.int .i64 re), (.int .i64 rc)]), (S t), (.int .i64 pl), (.int .i64 ab)] w fun e w' => ∃ v' hs', e = .returned (.tuple #[v', .int .i64 (chainS re rc (t.length + 1) t pl ab).2]) ∧ Own 176 4 v' (chainS re rc (t.length + 1) t pl ab).1.length ((chainS re rc (t.length + 1) t pl ab).1.flatMap frC) hs' ∧ Has E w' [hs', R] := by
 refine zs (args := [(.agg #[(.int .i64 re), (.int .i64 rc)]), (S t), (.int .i64 pl), (.int .i64 ab)]) Tryz.func100 rfl Tryz.ntmps100 (by simp) ?_
 refine wp_seq_k fun K1 hK1 => ?_
 refine zb ?_
 refine za (o_box (cs := #[(.int .i64 re), (.int .i64 rc)]) rfl rfl hH fun b2 w3 hH4 => ?_)
 refine za (ze (v := (.slice none 0 0)) rfl ?_)
 refine za (ze (v := (.int .i64 0)) rfl ?_)
 refine zf ?_
 refine zc (hK1 _ _ ?_)
 refine wp_seq_k fun K5 hK5 => ?_
 refine zb ?_
 refine za (ze (v := (.slice none 0 0)) rfl ?_)
 refine zf ?_
 refine zc (hK5 _ _ ?_)
 refine wp_seq_k fun K6 hK6 => ?_
 refine wp_block ?_
 let I8 : Nat → (Nat → Value) → World → Prop := fun n__ r__ w__ => ∃ (n : Nat) (cur : List UInt8) (pl2 : Int) (ab2 : Int) (va : Value) (ha : List Hp) (acc : List Fr), n__ = n + 1 ∧ Has E w__ [ha, [Hp.one b2 (.cells #[(.int .i64 re), (.int .i64 rc)] 170 (0, 0))], R] ∧ (cur.length < n) ∧ (Own 176 4 va acc.length (acc.flatMap frC) ha) ∧ (pl2 + (cur.length : Int) = pl + (t.length : Int)) ∧ (25 * acc.length + cur.length ≤ t.length) ∧ ((chainS re rc (t.length + 1) t pl ab) = (acc ++ (chainS re rc n cur pl2 ab2).1, (chainS re rc n cur pl2 ab2).2)) ∧ r__ 0 = (.agg #[(.int .i64 re), (.int .i64 rc)]) ∧ r__ 1 = (S cur) ∧ r__ 2 = (.int .i64 pl2) ∧ r__ 3 = (.int .i64 ab2) ∧ r__ 4 = (.pointer (some ⟨b2, 0, none⟩)) ∧ r__ 8 = (.slice none 0 0) ∧ r__ 9 = (.int .i64 0) ∧ r__ 10 = va
 have hH9 : Has E w3 [[], [Hp.one b2 (.cells #[(.int .i64 re), (.int .i64 rc)] 170 (0, 0))], R] := (Has.nil ((hH4.front 1 rfl).front 1 rfl)).first 3 rfl
 refine zT I8 _ ⟨(t.length + 1), t, pl, ab, (.slice none 0 0), [], [], rfl, hH9, (by omega), Own.nil 176 4, rfl, (by simp), (by simp), rfl, rfl, rfl, rfl, rfl, rfl, rfl, rfl⟩ ?_
 rintro n_ r12 w10 ⟨n, cur, pl2, ab2, va, ha, acc, rfl, hH11, hn, hoa, hpl, hal, hch, e7_0, e7_1, e7_2, e7_3, e7_4, e7_8, e7_9, e7_10⟩
 refine wp_seq_k fun K13 hK13 => ?_
 refine wp_seq_k fun K14 hK14 => ?_
 refine zb ?_
 refine za (zd (v := (S cur)) e7_1 ?_)
 refine za (o_sneq (a := cur) (b := ([] : List UInt8)) rfl rfl ?_)
 refine zf ?_
 refine zc (hK14 _ _ ?_)
 refine zt rfl (fun h15 => ?_) (fun h15 => ?_)
 ·
  refine wp_skip ?_
  refine zc (hK13 _ _ ?_)
  refine wp_block ?_
  refine wp_seq_k fun K16 hK16 => ?_
  refine zb ?_
  refine za (zd (v := (S cur)) e7_1 ?_)
  refine za (zk (vs := #[(S cur)]) ca193 rfl (zF rfl) (fopen_c hH11.all (hg.mono (zh 2 rfl)) cur (by omega)) ?_)
  rintro _ w19 ⟨rfl, hX17⟩
  refine ⟨_, rfl, ?_⟩
  have hH18 := hX17.of_all
  refine za (zd (v := (.tuple #[(.agg #[(.int .i64 ((oF cur).ep)), (.int .i64 ((oF cur).pl)), (.int .i64 ((oF cur).gsn)), (S ((oF cur).data))]), (.int .i64 (oN cur)), (.bool (opensB cur))])) rfl ?_)
  refine za (zp (v := (.agg #[(.int .i64 ((oF cur).ep)), (.int .i64 ((oF cur).pl)), (.int .i64 ((oF cur).gsn)), (S ((oF cur).data))])) rfl rfl ?_)
  refine za (zp (v := (.int .i64 (oN cur))) rfl rfl ?_)
  refine za (zp (v := (.bool (opensB cur))) rfl rfl ?_)
  refine za (zU (cs := #[(.int .i64 0), (.int .i64 0), (.int .i64 0), (S ([] : List UInt8))]) ti176 rfl hH18 fun b20 w21 hH22 => ?_)
  refine zB (zw (vs := [(.int .i64 ((oF cur).ep)), (.int .i64 ((oF cur).pl)), (.int .i64 ((oF cur).gsn)), (S ((oF cur).data))]) (c' := #[(.int .i64 ((oF cur).ep)), (.int .i64 ((oF cur).pl)), (.int .i64 ((oF cur).gsn)), (S ((oF cur).data))]) ti176 rfl rfl rfl rfl (by intro u hu; simp only [List.mem_cons, List.not_mem_nil, or_false] at hu; rcases hu with rfl | rfl | rfl | rfl <;> first | rfl) (by simp) (by kernel_rfl) (hH22.front 0 rfl) fun w23 hH24 => ?_)
  refine za (ze (v := (.int .i64 (oN cur))) rfl ?_)
  refine za (ze (v := (.bool (opensB cur))) rfl ?_)
  refine zf ?_
  refine zc (hK16 _ _ ?_)
  refine wp_seq_k fun K25 hK25 => ?_
  refine wp_seq_k fun K26 hK26 => ?_
  refine zb ?_
  refine za (zd (v := (.bool (opensB cur))) rfl ?_)
  refine za (o_not rfl ?_)
  refine za (zd (v := (.bool (!(opensB cur)))) rfl ?_)
  rcases Bool.eq_false_or_eq_true (!(opensB cur)) with h27 | h27
  ·
   refine zi (b' := true) 24 rfl (congrArg Value.bool h27) rfl ?_
   refine zi (b' := true) 24 rfl (congrArg Value.bool h27) rfl ?_
   refine zi (b' := true) 24 rfl (congrArg Value.bool h27) rfl ?_
   refine zi (b' := true) 24 rfl (congrArg Value.bool h27) rfl ?_
   refine zi (b' := true) 24 rfl (congrArg Value.bool h27) rfl ?_
   refine zi (b' := true) 24 rfl (congrArg Value.bool h27) rfl ?_
   refine za (zo (u := (.bool true)) ((rfl : _ = _).trans (congrArg Value.bool h27)) rfl ?_)
   refine zf ?_
   refine zc (hK26 _ _ ?_)
   refine zN rfl rfl ?_
   refine wp_exit ?_
   refine zx (x_out rfl (zx (x_in (?_))))
   refine zc (hK6 _ _ ?_)
   refine wp_seq_k fun K28 hK28 => ?_
   refine zb ?_
   refine za (zd (v := va) e7_10 ?_)
   refine za (zd (v := (.int .i64 pl2)) e7_2 ?_)
   refine za (ze (v := va) rfl ?_)
   refine za (ze (v := (.int .i64 pl2)) rfl ?_)
   refine zf ?_
   refine zc (hK28 _ _ ?_)
   refine wp_ret ?_
   refine zV Tryz.results100  (v := va) rfl (x := (.int .i64 pl2)) rfl ?_
   have hH29 : Has E w23 [ha, R] := ((hH24.front 3 rfl).front 2 rfl).first 2 rfl
   have he := chain_end (.inl (not_t h27)) hch
   exact ⟨_, _, by rw [he], by rw [he]; exact hoa, hH29⟩
  ·
   have hle := oN_le (not_f h27)
   have hny := oN_yes (not_f h27)
   refine zn 24 rfl (congrArg Value.bool h27) (zC (cs := [(.int .i64 re), (.int .i64 rc)]) Tryz.underlying170 rfl ti170 e7_4 hH24 (zh 2 rfl) (CellsAt.one rfl) ?_)
   refine zn 24 rfl (congrArg Value.bool h27) (zC (cs := [(.int .i64 ((oF cur).ep)), (.int .i64 ((oF cur).pl)), (.int .i64 ((oF cur).gsn)), (S ((oF cur).data))]) Tryz.underlying176 rfl ti176 rfl hH24 (zh 0 rfl) (CellsAt.one rfl) ?_)
   refine zn 24 rfl (congrArg Value.bool h27) (zd (v := (.int .i64 pl2)) e7_2 ?_)
   refine zn 24 rfl (congrArg Value.bool h27) (zd (v := (.int .i64 ab2)) e7_3 ?_)
   refine zn 24 rfl (congrArg Value.bool h27) (zk (vs := #[(.agg #[(.int .i64 re), (.int .i64 rc)]), (.agg #[(.int .i64 ((oF cur).ep)), (.int .i64 ((oF cur).pl)), (.int .i64 ((oF cur).gsn)), (S ((oF cur).data))]), (.int .i64 pl2), (.int .i64 ab2)]) ca194 rfl (args4 rfl rfl rfl rfl) (ffits_c hH24.all (oF cur) (Nat.le_trans (oF_le cur) (by omega)) re rc pl2 ab2) ?_)
   rintro _ w32 ⟨rfl, hX30⟩
   refine ⟨_, rfl, ?_⟩
   have hH31 := hX30.of_all
   refine zn 24 rfl (congrArg Value.bool h27) (o_not rfl ?_)
   refine za (zm (u := (.bool (!(fitsF re rc pl2 ab2 (oF cur))))) ((rfl : _ = _).trans (congrArg Value.bool h27)) rfl ?_)
   refine zf ?_
   refine zc (hK26 _ _ ?_)
   refine zX rfl (fun h33 => ?_) (fun h33 => ?_)
   ·
    have h33_n : (fitsF re rc pl2 ab2 (oF cur)) = false := by first | simpa using h33 | exact Bool.of_not_eq_true (fun g_ => by rw [g_] at h33; cases h33)
    refine wp_exit ?_
    refine zx (x_out rfl (zx (x_in (?_))))
    refine zc (hK6 _ _ ?_)
    refine wp_seq_k fun K34 hK34 => ?_
    refine zb ?_
    refine za (zd (v := va) e7_10 ?_)
    refine za (zd (v := (.int .i64 pl2)) e7_2 ?_)
    refine za (ze (v := va) rfl ?_)
    refine za (ze (v := (.int .i64 pl2)) rfl ?_)
    refine zf ?_
    refine zc (hK34 _ _ ?_)
    refine wp_ret ?_
    refine zV Tryz.results100  (v := va) rfl (x := (.int .i64 pl2)) rfl ?_
    have hH35 : Has E w32 [ha, R] := ((hH31.front 3 rfl).front 2 rfl).first 2 rfl
    have he := chain_end (.inr (not_t h33)) hch
    exact ⟨_, _, by rw [he], by rw [he]; exact hoa, hH35⟩
   ·
    have h33_n : (fitsF re rc pl2 ab2 (oF cur)) = true := by first | simpa using h33 | exact Bool.of_not_eq_false (fun g_ => by rw [g_] at h33; cases h33)
    refine wp_skip ?_
    refine zc (hK25 _ _ ?_)
    refine wp_seq_k fun K36 hK36 => ?_
    refine zb ?_
    refine za (zd (v := va) e7_10 ?_)
    refine za (zC (cs := [(.int .i64 ((oF cur).ep)), (.int .i64 ((oF cur).pl)), (.int .i64 ((oF cur).gsn)), (S ((oF cur).data))]) Tryz.underlying176 rfl ti176 rfl hH31 (zh 0 rfl) (CellsAt.one rfl) ?_)
    refine za (zu (ps := #[(0, (.agg #[(.int .i64 ((oF cur).ep)), (.int .i64 ((oF cur).pl)), (.int .i64 ((oF cur).gsn)), (S ((oF cur).data))]))]) (cells := #[(.int .i64 ((oF cur).ep)), (.int .i64 ((oF cur).pl)), (.int .i64 ((oF cur).gsn)), (S ((oF cur).data))]) Tryz.underlying167 ti176 (by decide) (parts1 rfl) (by kernel_rfl) hH31 fun b37 w38 hH39 => ?_)
    refine za (o_append Tryz.underlying167 ti176 rfl (by decide) rfl hoa rfl (sl_litF (f := frC) (l := [(oF cur)]) frC_len rfl rfl (by simp)) (hH39.front 2 rfl) (zh 0 rfl) (one_fr _) (by simp; omega) (by simp; omega) fun v40 s41 w43 ho42 hH44 => ?_)
    have ho42 : Own 176 4 v40 (acc ++ [(oF cur)]).length ((acc ++ [(oF cur)]).flatMap frC) s41 := ho42.appF
    refine za (ze (v := v40) rfl ?_)
    refine zf ?_
    refine zc (hK36 _ _ ?_)
    refine Rest.region mixed (by kernel_rfl) ?_
    have hH45 : Has E { w43 with drawn := w43.drawn + 1 } [s41, [Hp.one b37 (.cells #[(.int .i64 ((oF cur).ep)), (.int .i64 ((oF cur).pl)), (.int .i64 ((oF cur).gsn)), (S ((oF cur).data))] 176 (0, 0))], [Hp.one b20 (.cells #[(.int .i64 ((oF cur).ep)), (.int .i64 ((oF cur).pl)), (.int .i64 ((oF cur).gsn)), (S ((oF cur).data))] 176 (0, 0))], [Hp.one b2 (.cells #[(.int .i64 re), (.int .i64 rc)] 170 (0, 0))], R] := Has0.drew hH44 _
    refine Rest.phaseA (fun w_ => Has E w_ [[Hp.one b20 (.cells #[(.int .i64 ((oF cur).ep)), (.int .i64 ((oF cur).pl)), (.int .i64 ((oF cur).gsn)), (S ((oF cur).data))] 176 (0, 0))]]) 0 10 10 rfl (by decide) (by kernel_rfl) ?_
    refine zr 0 rfl (by kernel_rfl) (fun w_ h_ => zd (v := (S cur)) e7_1 ⟨rfl, rfl⟩) ?_
    refine zr 1 rfl (by kernel_rfl) (fun w_ h_ => zd (v := (.int .i64 (oN cur))) rfl ⟨rfl, rfl⟩) ?_
    refine zr 2 rfl (by kernel_rfl) (fun w_ h_ => o_ssl_l Tryz.underlying9 rfl rfl (by omega) (by omega) ⟨rfl, rfl⟩) ?_
    refine zr 3 rfl (by kernel_rfl) (fun w_ h_ => zd (v := (.int .i64 pl2)) e7_2 ⟨rfl, rfl⟩) ?_
    refine zr 4 rfl (by kernel_rfl) (fun w_ h_ => zd (v := (.int .i64 (oN cur))) rfl ⟨rfl, rfl⟩) ?_
    refine zr 5 rfl (by kernel_rfl) (fun w_ h_ => zH (a := pl2) (b := (oN cur)) rfl rfl (w64 (by omega) (by omega)) ⟨rfl, rfl⟩) ?_
    refine zr 6 rfl (by kernel_rfl) (fun w_ h_ => zg (k := 2) (fun _ => by kernel_rfl) rfl ⟨rfl, rfl⟩) ?_
    refine zr 7 rfl (by kernel_rfl) (fun w_ h_ => zj (v := (.int .i64 ((oF cur).gsn))) Tryz.underlying3 rfl rfl h_ (zh 0 rfl) (CellsAt.one rfl) ⟨rfl, rfl⟩) ?_
    refine zr 8 rfl (by kernel_rfl) (fun w_ h_ => ze (v := (S (cur.drop ((oN cur)).toNat))) rfl ⟨rfl, rfl⟩) ?_
    refine zr 9 rfl (by kernel_rfl) (fun w_ h_ => ze (v := (.int .i64 (pl2 + (oN cur)))) rfl ⟨rfl, rfl⟩) ?_
    have hH46 : Has E { w43 with drawn := w43.drawn + 1 } [[Hp.one b20 (.cells #[(.int .i64 ((oF cur).ep)), (.int .i64 ((oF cur).pl)), (.int .i64 ((oF cur).gsn)), (S ((oF cur).data))] 176 (0, 0))]] := (hH45.front 2 rfl).first 1 rfl
    refine zQ (by kernel_rfl) hH46 ?_
    refine zP 10 rfl (by kernel_rfl) (ze (v := (.int .i64 ((oF cur).gsn))) rfl ?_)
    refine Rest.done (by kernel_rfl) ?_
    refine zG ?_
    have hH47 : Has E { w43 with drawn := w43.drawn + 1 } [s41, [Hp.one b2 (.cells #[(.int .i64 re), (.int .i64 rc)] 170 (0, 0))], R] := (((hH45.front 4 rfl).front 4 rfl).front 2 rfl).first 3 rfl
    refine zc ⟨(n - 1) + 1, _, rfl, ?_, ?_⟩
    · omega
    · exact ⟨(n - 1), (cur.drop ((oN cur)).toNat), (pl2 + (oN cur)), ((oF cur).gsn), v40, s41, (acc ++ [(oF cur)]), rfl, hH47, (by simp only [List.length_drop]; omega), (ho42), (by simp only [List.length_drop]; omega), (by simp only [List.length_append, List.length_cons, List.length_nil, List.length_drop]; omega), (by exact chain_step (by omega) (not_f h27) (not_f h33) hch), e7_0, rfl, rfl, rfl, e7_4, e7_8, e7_9, rfl⟩
 ·
  refine wp_exit ?_
  refine zx (zx (x_in (?_)))
  refine zc (hK6 _ _ ?_)
  refine wp_seq_k fun K48 hK48 => ?_
  refine zb ?_
  refine za (zd (v := va) e7_10 ?_)
  refine za (zd (v := (.int .i64 pl2)) e7_2 ?_)
  refine za (ze (v := va) rfl ?_)
  refine za (ze (v := (.int .i64 pl2)) rfl ?_)
  refine zf ?_
  refine zc (hK48 _ _ ?_)
  refine wp_ret ?_
  refine zV Tryz.results100  (v := va) rfl (x := (.int .i64 pl2)) rfl ?_
  have hH49 : Has E w10 [ha, R] := ((hH11.front 2 rfl).front 1 rfl).first 2 rfl
  have he := chain_end (.inl (by rw [show cur = [] from Classical.not_not.1 h15]; exact opens_nil)) hch
  exact ⟨_, _, by rw [he], by rw [he]; exact hoa, hH49⟩
end Go.Q
namespace Go.Q
open Go.Proofs
set_option linter.unusedVariables false
set_option maxRecDepth 100000
attribute [local irreducible] wpList OK Code.wp
theorem blG_step {la : List Bs} {x : Int} {i : Nat} {bl : Bool} {rd : Bs} (h : blG la x i = bl) (hs : rd = sec la (x + (i : Int))) (hl : rd.length = 64) : blG la x (i + 1) = (bl && decide (Lib.trimB rd 0 = [])) := by
 show (blG la x i && blankB (sec la (x + (i : Int)))) = _
 rw [h, ← hs]
 congr 1
 unfold blankB
 rw [decide_eq_decide, trim_zero, hl]
set_option maxHeartbeats 4000000 in
theorem hload_c {E w : World} {R sg : List Hp} {pb db : Nat} {p : Pw} {la : List Bs} (hH : Has E w [sg, [Hp.one pb (.cells #[(.bool p.off), (.bool p.armed), (.int .i64 p.left), (.int .i64 p.uses)] 145 (0, 0))], R]) (hd : DevAt pb sg db la []) (hg : CellsAt R 0 0 nibV) (h64 : Full64 la) (hla : la.length ≤ 4096) (x : Int) :
  Calls Tryz.prog 97 #[(.pointer (some ⟨db, 0, none⟩)), (.int .i64 x)] w fun e w' => e = .returned (.tuple #[.agg #[(.int .i64 (ldH p la x).seq), (.int .i64 (ldH p la x).ep), (.int .i64 (ldH p la x).cut), (.int .i64 (ldH p la x).st), (.int .i64 (ldH p la x).mrk)], .int .i64 (ldE p la x)]) ∧ Has E w' [sg, [Hp.one pb (.cells #[(.bool p.off), (.bool p.armed), (.int .i64 p.left), (.int .i64 p.uses)] 145 (0, 0))], R] := by
 refine zs (args := [(.pointer (some ⟨db, 0, none⟩)), (.int .i64 x)]) Tryz.func97 rfl Tryz.ntmps97 (by simp) ?_
 refine wp_seq_k fun K1 hK1 => ?_
 refine zb ?_
 refine za (zU (cs := #[(.int .i64 0), (.int .i64 0), (.int .i64 0), (.int .i64 0), (.int .i64 0)]) zR rfl hH fun b2 w3 hH4 => ?_)
 refine za (ze (v := (.int .i64 0)) rfl ?_)
 refine zf ?_
 refine zc (hK1 _ _ ?_)
 refine wp_seq_k fun K5 hK5 => ?_
 refine wp_seq_k fun K6 hK6 => ?_
 refine zb ?_
 refine za (zd (v := (.pointer (some ⟨db, 0, none⟩))) rfl ?_)
 refine za (zd (v := (.int .i64 x)) rfl ?_)
 refine za (zk (vs := #[(.pointer (some ⟨db, 0, none⟩)), (.int .i64 x)]) ca187 rfl (zI rfl rfl) (there_c ((hH4.front 2 rfl).front 2 rfl).all2 hd x) ?_)
 rintro _ w9 ⟨rfl, hX7⟩
 refine ⟨_, rfl, ?_⟩
 have hH8 : Has E w9 [sg, [Hp.one pb (.cells #[(.bool p.off), (.bool p.armed), (.int .i64 p.left), (.int .i64 p.uses)] 145 (0, 0))], [Hp.one b2 (.cells #[(.int .i64 0), (.int .i64 0), (.int .i64 0), (.int .i64 0), (.int .i64 0)] 23 (0, 0))], R] := hX7.of_all2
 refine za (ze (v := (.int .i64 (thE p la.length x))) rfl ?_)
 refine zf ?_
 refine zc (hK6 _ _ ?_)
 refine wp_seq_k fun K10 hK10 => ?_
 refine zb ?_
 refine za (zd (v := (.int .i64 (thE p la.length x))) rfl ?_)
 refine za (o_neq (a := thE p la.length x) (b := 0) rfl rfl ?_)
 refine zf ?_
 refine zc (hK10 _ _ ?_)
 refine zt rfl (fun h11 => ?_) (fun h11 => ?_)
 ·
  refine wp_seq_k fun K12 hK12 => ?_
  refine zb ?_
  refine za (zK (v := (.agg #[(.int .i64 0), (.int .i64 0), (.int .i64 0), (.int .i64 0), (.int .i64 0)])) (fun _ => by kernel_rfl) ?_)
  refine za (zd (v := (.int .i64 (thE p la.length x))) rfl ?_)
  refine zB (zw (vs := [(.int .i64 0), (.int .i64 0), (.int .i64 0), (.int .i64 0), (.int .i64 0)]) (c' := #[(.int .i64 0), (.int .i64 0), (.int .i64 0), (.int .i64 0), (.int .i64 0)]) zR rfl rfl rfl rfl (by intro u hu; simp only [List.mem_cons, List.not_mem_nil, or_false] at hu; rcases hu with rfl | rfl | rfl | rfl | rfl <;> first | rfl) (by simp) (by kernel_rfl) (hH8.front 2 rfl) fun w13 hH14 => ?_)
  refine za (ze (v := (.int .i64 (thE p la.length x))) rfl ?_)
  refine zf ?_
  refine zc (hK12 _ _ ?_)
  refine wp_ret ?_
  refine zv (zZ Tryz.results97 rfl (zy (cs := [(.int .i64 0), (.int .i64 0), (.int .i64 0), (.int .i64 0), (.int .i64 0)]) Tryz.underlying23 rfl zR hH14 (zh 0 rfl) (CellsAt.one rfl)) (x := (.int .i64 (thE p la.length x))) rfl ?_)
  have hH15 : Has E w13 [sg, [Hp.one pb (.cells #[(.bool p.off), (.bool p.armed), (.int .i64 p.left), (.int .i64 p.uses)] 145 (0, 0))], R] := (((hH14.front 3 rfl).front 3 rfl).front 3 rfl).first 3 rfl
  obtain ⟨e1_, e2_⟩ := ld_th h11
  exact ⟨by rw [e1_, e2_]; rfl, hH15⟩
 ·
  have hth_ := thE_zero (Classical.not_not.1 h11)
  obtain ⟨hx1_, hx2_⟩ := hth_.1
  refine wp_skip ?_
  refine zc (hK5 _ _ ?_)
  refine wp_seq_k fun K16 hK16 => ?_
  refine zb ?_
  refine za (zU (cs := #[(.int .i64 0), (.int .i64 0), (.int .i64 0), (.int .i64 0), (.int .i64 0)]) zR rfl hH8 fun b17 w18 hH19 => ?_)
  refine zf ?_
  refine zc (hK16 _ _ ?_)
  refine wp_seq_k fun K20 hK20 => ?_
  refine zb ?_
  refine za (ze (v := (.bool false)) rfl ?_)
  refine za (ze (v := (.bool true)) rfl ?_)
  refine zf ?_
  refine zc (hK20 _ _ ?_)
  refine wp_seq_k fun K21 hK21 => ?_
  refine wp_seq_k fun K22 hK22 => ?_
  refine zb ?_
  refine za (zd (v := (.int .i64 0)) rfl ?_)
  refine zf ?_
  refine zc (hK22 _ _ ?_)
  refine wp_block ?_
  have hH23 : Has E w18 [[Hp.one b17 (.cells #[(.int .i64 hdZ.seq), (.int .i64 hdZ.ep), (.int .i64 hdZ.cut), (.int .i64 hdZ.st), (.int .i64 hdZ.mrk)] 23 (0, 0))], sg, [Hp.one pb (.cells #[(.bool p.off), (.bool p.armed), (.int .i64 p.left), (.int .i64 p.uses)] 145 (0, 0))], [Hp.one b2 (.cells #[(.int .i64 0), (.int .i64 0), (.int .i64 0), (.int .i64 0), (.int .i64 0)] 23 (0, 0))], R] := hH19
  let I25 : Nat → (Nat → Value) → World → Prop := fun n__ r__ w__ => ∃ (i : Nat) (bh : Hd) (fd : Bool) (bl : Bool), n__ = 2 - i ∧ Has E w__ [[Hp.one b17 (.cells #[(.int .i64 bh.seq), (.int .i64 bh.ep), (.int .i64 bh.cut), (.int .i64 bh.st), (.int .i64 bh.mrk)] 23 (0, 0))], sg, [Hp.one pb (.cells #[(.bool p.off), (.bool p.armed), (.int .i64 p.left), (.int .i64 p.uses)] 145 (0, 0))], [Hp.one b2 (.cells #[(.int .i64 0), (.int .i64 0), (.int .i64 0), (.int .i64 0), (.int .i64 0)] 23 (0, 0))], R] ∧ (i ≤ 2) ∧ (ldG la x i = (bh, fd)) ∧ (blG la x i = bl) ∧ r__ 0 = (.pointer (some ⟨db, 0, none⟩)) ∧ r__ 1 = (.int .i64 x) ∧ r__ 4 = (.pointer (some ⟨b2, 0, none⟩)) ∧ r__ 6 = (.int .i64 (thE p la.length x)) ∧ r__ 7 = (.pointer (some ⟨b17, 0, none⟩)) ∧ r__ 8 = (.bool fd) ∧ r__ 9 = (.bool bl) ∧ r__ 19 = (.bool (decide (thE p la.length x ≠ 0))) ∧ r__ 22 = (.int .i64 (i : Int))
  refine zT I25 _ ⟨0, hdZ, false, true, rfl, hH23, (by omega), rfl, rfl, rfl, rfl, rfl, rfl, rfl, rfl, rfl, rfl, rfl⟩ ?_
  rintro n_ r28 w26 ⟨i, bh, fd, bl, rfl, hH27, hi, hld, hbl, e24_0, e24_1, e24_4, e24_6, e24_7, e24_8, e24_9, e24_19, e24_22⟩
  have hsi_ : i < 2 → inS (x + (i : Int)) la.length := fun h_ => ⟨by omega, by omega⟩
  refine wp_seq_k fun K29 hK29 => ?_
  refine zb ?_
  refine za (zL (a := (i : Int)) (b := 2) e24_22 rfl ?_)
  refine zf ?_
  refine zc (hK29 _ _ ?_)
  refine wp_seq_k fun K30 hK30 => ?_
  refine zt rfl (fun h31 => ?_) (fun h31 => ?_)
  ·
   refine wp_skip ?_
   refine zc (hK30 _ _ ?_)
   refine wp_seq_k fun K32 hK32 => ?_
   refine wp_block ?_
   refine wp_seq_k fun K33 hK33 => ?_
   refine zb ?_
   refine za (zd (v := (.int .i64 (i : Int))) e24_22 ?_)
   refine za (ze (v := (.int .i64 (i : Int))) rfl ?_)
   refine zf ?_
   refine zc (hK33 _ _ ?_)
   refine wp_seq_k fun K34 hK34 => ?_
   refine zb ?_
   refine za (zd (v := (.pointer (some ⟨db, 0, none⟩))) e24_0 ?_)
   refine za (zd (v := (.int .i64 x)) e24_1 ?_)
   refine za (zd (v := (.int .i64 (i : Int))) rfl ?_)
   refine za (zH (a := x) (b := (i : Int)) rfl rfl (w64 (by omega) (by omega)) ?_)
   refine za (zk (vs := #[(.pointer (some ⟨db, 0, none⟩)), (.int .i64 (x + (i : Int)))]) ca188 rfl (zI rfl rfl) (read_d (p := p) (la := la) (lo := ([] : List (Int × Bs))) ((hH27.front 2 rfl).front 2 rfl).all2 hd (x + (i : Int))) ?_)
   rintro _ w37 ⟨rfl, hX35⟩
   refine ⟨_, rfl, ?_⟩
   have hH36 : Has E w37 [sg, [Hp.one pb (.cells #[(.bool p.off), (.bool p.armed), (.int .i64 p.left), (.int .i64 p.uses)] 145 (0, 0))], [Hp.one b17 (.cells #[(.int .i64 bh.seq), (.int .i64 bh.ep), (.int .i64 bh.cut), (.int .i64 bh.st), (.int .i64 bh.mrk)] 23 (0, 0))], [Hp.one b2 (.cells #[(.int .i64 0), (.int .i64 0), (.int .i64 0), (.int .i64 0), (.int .i64 0)] 23 (0, 0))], R] := hX35.of_all2
   refine za (zd (v := (.tuple #[(S (readS p la ([] : List (Int × Bs)) (x + (i : Int)))), (.int .i64 (readE p la (x + (i : Int))))])) rfl ?_)
   refine za (zp (v := (S (readS p la ([] : List (Int × Bs)) (x + (i : Int))))) rfl rfl ?_)
   refine za (zp (v := (.int .i64 (readE p la (x + (i : Int))))) rfl rfl ?_)
   refine za (ze (v := (S (readS p la ([] : List (Int × Bs)) (x + (i : Int))))) rfl ?_)
   refine za (ze (v := (.int .i64 (readE p la (x + (i : Int))))) rfl ?_)
   refine zf ?_
   refine zc (hK34 _ _ ?_)
   refine wp_seq_k fun K38 hK38 => ?_
   refine wp_seq_k fun K39 hK39 => ?_
   refine zb ?_
   refine za (zd (v := (.int .i64 (readE p la (x + (i : Int))))) rfl ?_)
   refine za (o_neq (a := readE p la (x + (i : Int))) (b := 0) rfl rfl ?_)
   refine zf ?_
   refine zc (hK39 _ _ ?_)
   refine zt rfl (fun h40 => ?_) (fun h40 => ?_)
   ·
    obtain ⟨hsec_, hre_⟩ := read_sec (p := p) (la := la) (n := x + (i : Int)) hth_.2 (hsi_ (by omega))
    have hsl_ : (readS p la [] (x + (i : Int))).length = 64 := by rw [hsec_]; exact sec_len h64 (hsi_ (by omega))
    exact absurd hre_ h40
   ·
    obtain ⟨hsec_, hre_⟩ := read_sec (p := p) (la := la) (n := x + (i : Int)) hth_.2 (hsi_ (by omega))
    have hsl_ : (readS p la [] (x + (i : Int))).length = 64 := by rw [hsec_]; exact sec_len h64 (hsi_ (by omega))
    refine wp_skip ?_
    refine zc (hK38 _ _ ?_)
    refine wp_seq_k fun K41 hK41 => ?_
    refine zb ?_
    refine za (zd (v := (.bool bl)) e24_9 ?_)
    refine za (zd (v := (.bool bl)) rfl ?_)
    rcases Bool.eq_false_or_eq_true bl with h42 | h42
    ·
     refine zn 38 rfl (congrArg Value.bool h42) (zd (v := (S (readS p la ([] : List (Int × Bs)) (x + (i : Int))))) rfl ?_)
     refine zn 38 rfl (congrArg Value.bool h42) (zk (vs := #[(S (readS p la ([] : List (Int × Bs)) (x + (i : Int)))), (S [0])]) ca189 rfl (zI rfl rfl) (strim_c hH36.all (readS p la ([] : List (Int × Bs)) (x + (i : Int))) (by omega)) ?_)
     rintro _ w45 ⟨rfl, hX43⟩
     refine ⟨_, rfl, ?_⟩
     have hH44 := hX43.of_all
     refine zn 38 rfl (congrArg Value.bool h42) (o_seql (a := (Lib.trimB (readS p la ([] : List (Int × Bs)) (x + (i : Int))) 0)) (b := ([] : List UInt8)) rfl rfl ?_)
     refine za (zo (u := (.bool (decide ((Lib.trimB (readS p la ([] : List (Int × Bs)) (x + (i : Int))) 0) = ([] : List UInt8))))) ((rfl : _ = _).trans (congrArg Value.bool h42)) rfl ?_)
     refine za (ze (v := (.bool (decide ((Lib.trimB (readS p la ([] : List (Int × Bs)) (x + (i : Int))) 0) = ([] : List UInt8))))) rfl ?_)
     refine zf ?_
     refine zc (hK41 _ _ ?_)
     refine wp_seq_k fun K46 hK46 => ?_
     refine zb ?_
     refine za (zd (v := (S (readS p la ([] : List (Int × Bs)) (x + (i : Int))))) rfl ?_)
     refine za (zk (vs := #[(S (readS p la ([] : List (Int × Bs)) (x + (i : Int))))]) ca190 rfl (zF rfl) (hread_c (s := (readS p la ([] : List (Int × Bs)) (x + (i : Int)))) hH44.all (hg.mono (zh 4 rfl)) (by first | omega | (simp only []; omega) | (simp; done) | (simp; omega))) ?_)
     rintro _ w49 ⟨rfl, hX47⟩
     refine ⟨_, rfl, ?_⟩
     have hH48 := hX47.of_all
     have hnn_ := hdP_nn (readS p la ([] : List (Int × Bs)) (x + (i : Int)))
     refine za (zd (v := (.tuple #[(.agg #[(.int .i64 ((hdP (readS p la ([] : List (Int × Bs)) (x + (i : Int)))).1).seq), (.int .i64 ((hdP (readS p la ([] : List (Int × Bs)) (x + (i : Int)))).1).ep), (.int .i64 ((hdP (readS p la ([] : List (Int × Bs)) (x + (i : Int)))).1).cut), (.int .i64 ((hdP (readS p la ([] : List (Int × Bs)) (x + (i : Int)))).1).st), (.int .i64 ((hdP (readS p la ([] : List (Int × Bs)) (x + (i : Int)))).1).mrk)]), (.bool ((hdP (readS p la ([] : List (Int × Bs)) (x + (i : Int)))).2))])) rfl ?_)
     refine za (zp (v := (.agg #[(.int .i64 ((hdP (readS p la ([] : List (Int × Bs)) (x + (i : Int)))).1).seq), (.int .i64 ((hdP (readS p la ([] : List (Int × Bs)) (x + (i : Int)))).1).ep), (.int .i64 ((hdP (readS p la ([] : List (Int × Bs)) (x + (i : Int)))).1).cut), (.int .i64 ((hdP (readS p la ([] : List (Int × Bs)) (x + (i : Int)))).1).st), (.int .i64 ((hdP (readS p la ([] : List (Int × Bs)) (x + (i : Int)))).1).mrk)])) rfl rfl ?_)
     refine za (zp (v := (.bool ((hdP (readS p la ([] : List (Int × Bs)) (x + (i : Int)))).2))) rfl rfl ?_)
     refine za (zU (cs := #[(.int .i64 0), (.int .i64 0), (.int .i64 0), (.int .i64 0), (.int .i64 0)]) zR rfl hH48 fun b50 w51 hH52 => ?_)
     refine zB (zw (vs := [(.int .i64 ((hdP (readS p la ([] : List (Int × Bs)) (x + (i : Int)))).1).seq), (.int .i64 ((hdP (readS p la ([] : List (Int × Bs)) (x + (i : Int)))).1).ep), (.int .i64 ((hdP (readS p la ([] : List (Int × Bs)) (x + (i : Int)))).1).cut), (.int .i64 ((hdP (readS p la ([] : List (Int × Bs)) (x + (i : Int)))).1).st), (.int .i64 ((hdP (readS p la ([] : List (Int × Bs)) (x + (i : Int)))).1).mrk)]) (c' := #[(.int .i64 ((hdP (readS p la ([] : List (Int × Bs)) (x + (i : Int)))).1).seq), (.int .i64 ((hdP (readS p la ([] : List (Int × Bs)) (x + (i : Int)))).1).ep), (.int .i64 ((hdP (readS p la ([] : List (Int × Bs)) (x + (i : Int)))).1).cut), (.int .i64 ((hdP (readS p la ([] : List (Int × Bs)) (x + (i : Int)))).1).st), (.int .i64 ((hdP (readS p la ([] : List (Int × Bs)) (x + (i : Int)))).1).mrk)]) zR rfl rfl rfl rfl (by intro u hu; simp only [List.mem_cons, List.not_mem_nil, or_false] at hu; rcases hu with rfl | rfl | rfl | rfl | rfl <;> first | rfl) (by simp) (by kernel_rfl) (hH52.front 0 rfl) fun w53 hH54 => ?_)
     refine za (ze (v := (.bool ((hdP (readS p la ([] : List (Int × Bs)) (x + (i : Int)))).2))) rfl ?_)
     refine zf ?_
     refine zc (hK46 _ _ ?_)
     refine wp_seq_k fun K55 hK55 => ?_
     refine zb ?_
     refine za (zd (v := (.bool ((hdP (readS p la ([] : List (Int × Bs)) (x + (i : Int)))).2))) rfl ?_)
     refine za (zd (v := (.bool ((hdP (readS p la ([] : List (Int × Bs)) (x + (i : Int)))).2))) rfl ?_)
     rcases Bool.eq_false_or_eq_true ((hdP (readS p la ([] : List (Int × Bs)) (x + (i : Int)))).2) with h56 | h56
     ·
      refine zn 49 rfl (congrArg Value.bool h56) (zg (k := 0) (fun _ => by kernel_rfl) rfl ?_)
      refine zn 49 rfl (congrArg Value.bool h56) (zj (v := (.int .i64 ((hdP (readS p la ([] : List (Int × Bs)) (x + (i : Int)))).1).seq)) Tryz.underlying3 rfl rfl hH54 (zh 0 rfl) (CellsAt.one rfl) ?_)
      refine zn 49 rfl (congrArg Value.bool h56) (o_rem (a := ((hdP (readS p la ([] : List (Int × Bs)) (x + (i : Int)))).1).seq) (b := 2) (c := (((hdP (readS p la ([] : List (Int × Bs)) (x + (i : Int)))).1).seq) % 2) rfl rfl (by omega) ((Int.tmod_eq_emod_of_nonneg (by first | exact Int.natCast_nonneg _ | omega))) ?_)
      refine zn 49 rfl (congrArg Value.bool h56) (zd (v := (.int .i64 (i : Int))) rfl ?_)
      refine zn 49 rfl (congrArg Value.bool h56) (yd (a := (((hdP (readS p la ([] : List (Int × Bs)) (x + (i : Int)))).1).seq) % 2) (b := (i : Int)) rfl rfl ?_)
      refine za (zo (u := (.bool (decide ((((hdP (readS p la ([] : List (Int × Bs)) (x + (i : Int)))).1).seq) % 2 = (i : Int))))) ((rfl : _ = _).trans (congrArg Value.bool h56)) rfl ?_)
      refine za (zd (v := (.bool (decide ((((hdP (readS p la ([] : List (Int × Bs)) (x + (i : Int)))).1).seq) % 2 = (i : Int))))) rfl ?_)
      by_cases h57 : (((hdP (readS p la ([] : List (Int × Bs)) (x + (i : Int)))).1).seq) % 2 = (i : Int)
      ·
       refine zn 56 rfl (cT h57) (zd (v := (.bool fd)) e24_8 ?_)
       refine zn 56 rfl (cT h57) (o_not rfl ?_)
       refine zn 56 rfl (cT h57) (zd (v := (.bool (!fd))) rfl ?_)
       rcases Bool.eq_false_or_eq_true (!fd) with h58 | h58
       ·
        have h58_n : fd = false := by first | simpa using h58 | exact Bool.of_not_eq_true (fun g_ => by rw [g_] at h58; cases h58)
        refine zi (b' := true) 59 rfl (congrArg Value.bool h58) rfl ?_
        refine zi (b' := true) 59 rfl (congrArg Value.bool h58) rfl ?_
        refine zi (b' := true) 59 rfl (congrArg Value.bool h58) rfl ?_
        refine zi (b' := true) 59 rfl (congrArg Value.bool h58) rfl ?_
        refine zi (b' := true) 59 rfl (congrArg Value.bool h58) rfl ?_
        refine zn 56 rfl (cT h57) (zo (u := (.bool true)) ((rfl : _ = _).trans (congrArg Value.bool h58)) rfl ?_)
        refine za (zo (u := (.bool true)) ((rfl : _ = _).trans (cT h57)) rfl ?_)
        refine zf ?_
        refine zc (hK55 _ _ ?_)
        refine zN rfl rfl ?_
        refine zb ?_
        refine za (zC (cs := [(.int .i64 ((hdP (readS p la ([] : List (Int × Bs)) (x + (i : Int)))).1).seq), (.int .i64 ((hdP (readS p la ([] : List (Int × Bs)) (x + (i : Int)))).1).ep), (.int .i64 ((hdP (readS p la ([] : List (Int × Bs)) (x + (i : Int)))).1).cut), (.int .i64 ((hdP (readS p la ([] : List (Int × Bs)) (x + (i : Int)))).1).st), (.int .i64 ((hdP (readS p la ([] : List (Int × Bs)) (x + (i : Int)))).1).mrk)]) Tryz.underlying23 rfl zR rfl hH54 (zh 0 rfl) (CellsAt.one rfl) ?_)
        refine zB (zw (vs := [(.int .i64 ((hdP (readS p la ([] : List (Int × Bs)) (x + (i : Int)))).1).seq), (.int .i64 ((hdP (readS p la ([] : List (Int × Bs)) (x + (i : Int)))).1).ep), (.int .i64 ((hdP (readS p la ([] : List (Int × Bs)) (x + (i : Int)))).1).cut), (.int .i64 ((hdP (readS p la ([] : List (Int × Bs)) (x + (i : Int)))).1).st), (.int .i64 ((hdP (readS p la ([] : List (Int × Bs)) (x + (i : Int)))).1).mrk)]) (c' := #[(.int .i64 ((hdP (readS p la ([] : List (Int × Bs)) (x + (i : Int)))).1).seq), (.int .i64 ((hdP (readS p la ([] : List (Int × Bs)) (x + (i : Int)))).1).ep), (.int .i64 ((hdP (readS p la ([] : List (Int × Bs)) (x + (i : Int)))).1).cut), (.int .i64 ((hdP (readS p la ([] : List (Int × Bs)) (x + (i : Int)))).1).st), (.int .i64 ((hdP (readS p la ([] : List (Int × Bs)) (x + (i : Int)))).1).mrk)]) zR e24_7 rfl rfl rfl (by intro u hu; simp only [List.mem_cons, List.not_mem_nil, or_false] at hu; rcases hu with rfl | rfl | rfl | rfl | rfl <;> first | rfl) (by simp) (by kernel_rfl) (hH54.front 3 rfl) fun w59 hH60 => ?_)
        refine za (ze (v := (.bool true)) rfl ?_)
        refine zf ?_
        refine zG ?_
        refine zc (hK32 _ _ ?_)
        refine zb ?_
        refine za (zH (a := (i : Int)) (b := 1) e24_22 rfl (w64 (by omega) (by omega)) ?_)
        refine za (zd (v := (.int .i64 ((i : Int) + 1))) rfl ?_)
        refine zf ?_
        have hH61 : Has E w59 [[Hp.one b17 (.cells #[(.int .i64 ((hdP (readS p la ([] : List (Int × Bs)) (x + (i : Int)))).1).seq), (.int .i64 ((hdP (readS p la ([] : List (Int × Bs)) (x + (i : Int)))).1).ep), (.int .i64 ((hdP (readS p la ([] : List (Int × Bs)) (x + (i : Int)))).1).cut), (.int .i64 ((hdP (readS p la ([] : List (Int × Bs)) (x + (i : Int)))).1).st), (.int .i64 ((hdP (readS p la ([] : List (Int × Bs)) (x + (i : Int)))).1).mrk)] 23 (0, 0))], sg, [Hp.one pb (.cells #[(.bool p.off), (.bool p.armed), (.int .i64 p.left), (.int .i64 p.uses)] 145 (0, 0))], [Hp.one b2 (.cells #[(.int .i64 0), (.int .i64 0), (.int .i64 0), (.int .i64 0), (.int .i64 0)] 23 (0, 0))], R] := (((((hH60.front 5 rfl).front 5 rfl).front 5 rfl).front 5 rfl).front 4 rfl).first 5 rfl
        refine zc ⟨2 - (i + 1), _, rfl, ?_, ?_⟩
        · omega
        · exact ⟨(i + 1), ((hdP (readS p la ([] : List (Int × Bs)) (x + (i : Int)))).1), true, (decide ((Lib.trimB (readS p la ([] : List (Int × Bs)) (x + (i : Int))) 0) = ([] : List UInt8))), rfl, hH61, (by omega), (ldG_yes hld hsec_ (by first | (simpa using h11) | (simpa using h31) | (simpa using h40) | (simpa using h42) | (simpa using h56) | (simpa using h57) | (simpa using h58) | (simpa using h58_n)) (by first | exact h11 | exact h31 | exact h40 | exact h42 | exact h56 | exact h57 | exact h58 | exact h58_n) (by first | exact .inr (by omega) | exact .inl (by simpa using h11) | exact .inl (by simpa using h31) | exact .inl (by simpa using h40) | exact .inl (by simpa using h42) | exact .inl (by simpa using h56) | exact .inl (by simpa using h57) | exact .inl (by simpa using h58) | exact .inl (by simpa using h58_n))), ((blG_step hbl hsec_ hsl_).trans (by first | rfl | (rw [h42]; rfl) | simp [h42])), e24_0, e24_1, e24_4, e24_6, e24_7, rfl, rfl, e24_19, rfl⟩
       ·
        have h58_n : fd = true := by first | simpa using h58 | exact Bool.of_not_eq_false (fun g_ => by rw [g_] at h58; cases h58)
        refine zn 59 rfl (congrArg Value.bool h58) (zg (k := 0) (fun _ => by kernel_rfl) rfl ?_)
        refine zn 59 rfl (congrArg Value.bool h58) (zj (v := (.int .i64 ((hdP (readS p la ([] : List (Int × Bs)) (x + (i : Int)))).1).seq)) Tryz.underlying3 rfl rfl hH54 (zh 0 rfl) (CellsAt.one rfl) ?_)
        refine zn 59 rfl (congrArg Value.bool h58) (zg (k := 0) (fun _ => by kernel_rfl) e24_7 ?_)
        refine zn 59 rfl (congrArg Value.bool h58) (zj (v := (.int .i64 bh.seq)) Tryz.underlying3 rfl rfl hH54 (zh 3 rfl) (CellsAt.one rfl) ?_)
        refine zn 59 rfl (congrArg Value.bool h58) (o_gtr (a := ((hdP (readS p la ([] : List (Int × Bs)) (x + (i : Int)))).1).seq) (b := bh.seq) rfl rfl ?_)
        refine zn 56 rfl (cT h57) (zm (u := (.bool (decide (bh.seq < ((hdP (readS p la ([] : List (Int × Bs)) (x + (i : Int)))).1).seq)))) ((rfl : _ = _).trans (congrArg Value.bool h58)) rfl ?_)
        refine za (zo (u := (.bool (decide (bh.seq < ((hdP (readS p la ([] : List (Int × Bs)) (x + (i : Int)))).1).seq)))) ((rfl : _ = _).trans (cT h57)) rfl ?_)
        refine zf ?_
        refine zc (hK55 _ _ ?_)
        refine zt rfl (fun h62 => ?_) (fun h62 => ?_)
        ·
         refine zb ?_
         refine za (zC (cs := [(.int .i64 ((hdP (readS p la ([] : List (Int × Bs)) (x + (i : Int)))).1).seq), (.int .i64 ((hdP (readS p la ([] : List (Int × Bs)) (x + (i : Int)))).1).ep), (.int .i64 ((hdP (readS p la ([] : List (Int × Bs)) (x + (i : Int)))).1).cut), (.int .i64 ((hdP (readS p la ([] : List (Int × Bs)) (x + (i : Int)))).1).st), (.int .i64 ((hdP (readS p la ([] : List (Int × Bs)) (x + (i : Int)))).1).mrk)]) Tryz.underlying23 rfl zR rfl hH54 (zh 0 rfl) (CellsAt.one rfl) ?_)
         refine zB (zw (vs := [(.int .i64 ((hdP (readS p la ([] : List (Int × Bs)) (x + (i : Int)))).1).seq), (.int .i64 ((hdP (readS p la ([] : List (Int × Bs)) (x + (i : Int)))).1).ep), (.int .i64 ((hdP (readS p la ([] : List (Int × Bs)) (x + (i : Int)))).1).cut), (.int .i64 ((hdP (readS p la ([] : List (Int × Bs)) (x + (i : Int)))).1).st), (.int .i64 ((hdP (readS p la ([] : List (Int × Bs)) (x + (i : Int)))).1).mrk)]) (c' := #[(.int .i64 ((hdP (readS p la ([] : List (Int × Bs)) (x + (i : Int)))).1).seq), (.int .i64 ((hdP (readS p la ([] : List (Int × Bs)) (x + (i : Int)))).1).ep), (.int .i64 ((hdP (readS p la ([] : List (Int × Bs)) (x + (i : Int)))).1).cut), (.int .i64 ((hdP (readS p la ([] : List (Int × Bs)) (x + (i : Int)))).1).st), (.int .i64 ((hdP (readS p la ([] : List (Int × Bs)) (x + (i : Int)))).1).mrk)]) zR e24_7 rfl rfl rfl (by intro u hu; simp only [List.mem_cons, List.not_mem_nil, or_false] at hu; rcases hu with rfl | rfl | rfl | rfl | rfl <;> first | rfl) (by simp) (by kernel_rfl) (hH54.front 3 rfl) fun w63 hH64 => ?_)
         refine za (ze (v := (.bool true)) rfl ?_)
         refine zf ?_
         refine zG ?_
         refine zc (hK32 _ _ ?_)
         refine zb ?_
         refine za (zH (a := (i : Int)) (b := 1) e24_22 rfl (w64 (by omega) (by omega)) ?_)
         refine za (zd (v := (.int .i64 ((i : Int) + 1))) rfl ?_)
         refine zf ?_
         have hH65 : Has E w63 [[Hp.one b17 (.cells #[(.int .i64 ((hdP (readS p la ([] : List (Int × Bs)) (x + (i : Int)))).1).seq), (.int .i64 ((hdP (readS p la ([] : List (Int × Bs)) (x + (i : Int)))).1).ep), (.int .i64 ((hdP (readS p la ([] : List (Int × Bs)) (x + (i : Int)))).1).cut), (.int .i64 ((hdP (readS p la ([] : List (Int × Bs)) (x + (i : Int)))).1).st), (.int .i64 ((hdP (readS p la ([] : List (Int × Bs)) (x + (i : Int)))).1).mrk)] 23 (0, 0))], sg, [Hp.one pb (.cells #[(.bool p.off), (.bool p.armed), (.int .i64 p.left), (.int .i64 p.uses)] 145 (0, 0))], [Hp.one b2 (.cells #[(.int .i64 0), (.int .i64 0), (.int .i64 0), (.int .i64 0), (.int .i64 0)] 23 (0, 0))], R] := (((((hH64.front 5 rfl).front 5 rfl).front 5 rfl).front 5 rfl).front 4 rfl).first 5 rfl
         refine zc ⟨2 - (i + 1), _, rfl, ?_, ?_⟩
         · omega
         · exact ⟨(i + 1), ((hdP (readS p la ([] : List (Int × Bs)) (x + (i : Int)))).1), true, (decide ((Lib.trimB (readS p la ([] : List (Int × Bs)) (x + (i : Int))) 0) = ([] : List UInt8))), rfl, hH65, (by omega), (ldG_yes hld hsec_ (by first | (simpa using h11) | (simpa using h31) | (simpa using h40) | (simpa using h42) | (simpa using h56) | (simpa using h57) | (simpa using h58) | (simpa using h58_n) | (simpa using h62)) (by first | exact h11 | exact h31 | exact h40 | exact h42 | exact h56 | exact h57 | exact h58 | exact h58_n | exact h62) (by first | exact .inr (by omega) | exact .inl (by simpa using h11) | exact .inl (by simpa using h31) | exact .inl (by simpa using h40) | exact .inl (by simpa using h42) | exact .inl (by simpa using h56) | exact .inl (by simpa using h57) | exact .inl (by simpa using h58) | exact .inl (by simpa using h58_n) | exact .inl (by simpa using h62))), ((blG_step hbl hsec_ hsl_).trans (by first | rfl | (rw [h42]; rfl) | simp [h42])), e24_0, e24_1, e24_4, e24_6, e24_7, rfl, rfl, e24_19, rfl⟩
        ·
         refine wp_skip ?_
         refine zG ?_
         refine zc (hK32 _ _ ?_)
         refine zb ?_
         refine za (zH (a := (i : Int)) (b := 1) e24_22 rfl (w64 (by omega) (by omega)) ?_)
         refine za (zd (v := (.int .i64 ((i : Int) + 1))) rfl ?_)
         refine zf ?_
         have hH66 : Has E w53 [[Hp.one b17 (.cells #[(.int .i64 bh.seq), (.int .i64 bh.ep), (.int .i64 bh.cut), (.int .i64 bh.st), (.int .i64 bh.mrk)] 23 (0, 0))], sg, [Hp.one pb (.cells #[(.bool p.off), (.bool p.armed), (.int .i64 p.left), (.int .i64 p.uses)] 145 (0, 0))], [Hp.one b2 (.cells #[(.int .i64 0), (.int .i64 0), (.int .i64 0), (.int .i64 0), (.int .i64 0)] 23 (0, 0))], R] := (((((hH54.front 5 rfl).front 5 rfl).front 4 rfl).front 4 rfl).front 5 rfl).first 5 rfl
         refine zc ⟨2 - (i + 1), _, rfl, ?_, ?_⟩
         · omega
         · exact ⟨(i + 1), bh, fd, (decide ((Lib.trimB (readS p la ([] : List (Int × Bs)) (x + (i : Int))) 0) = ([] : List UInt8))), rfl, hH66, (by omega), (ldG_no hld hsec_ (.inr (.inr ⟨by first | (simpa using h11) | (simpa using h31) | (simpa using h40) | (simpa using h42) | (simpa using h56) | (simpa using h57) | (simpa using h58) | (simpa using h58_n) | (simpa using h62), by omega⟩))), ((blG_step hbl hsec_ hsl_).trans (by first | rfl | (rw [h42]; rfl) | simp [h42])), e24_0, e24_1, e24_4, e24_6, e24_7, e24_8, rfl, e24_19, rfl⟩
      ·
       refine zi (b' := false) 56 rfl (cF h57) rfl ?_
       refine zi (b' := false) 56 rfl (cF h57) rfl ?_
       refine zi (b' := false) 56 rfl (cF h57) rfl ?_
       refine zA 59 rfl rfl ?_
       refine zA 59 rfl rfl ?_
       refine zA 59 rfl rfl ?_
       refine zA 59 rfl rfl ?_
       refine zA 59 rfl rfl ?_
       refine zi (b' := false) 56 rfl (cF h57) rfl ?_
       refine za (zm (u := (.bool false)) ((rfl : _ = _).trans (cF h57)) rfl ?_)
       refine zf ?_
       refine zc (hK55 _ _ ?_)
       refine zS rfl rfl ?_
       refine wp_skip ?_
       refine zG ?_
       refine zc (hK32 _ _ ?_)
       refine zb ?_
       refine za (zH (a := (i : Int)) (b := 1) e24_22 rfl (w64 (by omega) (by omega)) ?_)
       refine za (zd (v := (.int .i64 ((i : Int) + 1))) rfl ?_)
       refine zf ?_
       have hH67 : Has E w53 [[Hp.one b17 (.cells #[(.int .i64 bh.seq), (.int .i64 bh.ep), (.int .i64 bh.cut), (.int .i64 bh.st), (.int .i64 bh.mrk)] 23 (0, 0))], sg, [Hp.one pb (.cells #[(.bool p.off), (.bool p.armed), (.int .i64 p.left), (.int .i64 p.uses)] 145 (0, 0))], [Hp.one b2 (.cells #[(.int .i64 0), (.int .i64 0), (.int .i64 0), (.int .i64 0), (.int .i64 0)] 23 (0, 0))], R] := (((((hH54.front 5 rfl).front 5 rfl).front 4 rfl).front 4 rfl).front 5 rfl).first 5 rfl
       refine zc ⟨2 - (i + 1), _, rfl, ?_, ?_⟩
       · omega
       · exact ⟨(i + 1), bh, fd, (decide ((Lib.trimB (readS p la ([] : List (Int × Bs)) (x + (i : Int))) 0) = ([] : List UInt8))), rfl, hH67, (by omega), (ldG_no hld hsec_ (by first | exact .inl (by simpa using h11) | exact .inr (.inl h11) | exact .inl (by simpa using h31) | exact .inr (.inl h31) | exact .inl (by simpa using h40) | exact .inr (.inl h40) | exact .inl (by simpa using h42) | exact .inr (.inl h42) | exact .inl (by simpa using h56) | exact .inr (.inl h56) | exact .inl (by simpa using h57) | exact .inr (.inl h57))), ((blG_step hbl hsec_ hsl_).trans (by first | rfl | (rw [h42]; rfl) | simp [h42])), e24_0, e24_1, e24_4, e24_6, e24_7, e24_8, rfl, e24_19, rfl⟩
     ·
      refine zi (b' := false) 49 rfl (congrArg Value.bool h56) rfl ?_
      refine zi (b' := false) 49 rfl (congrArg Value.bool h56) rfl ?_
      refine zi (b' := false) 49 rfl (congrArg Value.bool h56) rfl ?_
      refine zi (b' := false) 49 rfl (congrArg Value.bool h56) rfl ?_
      refine zi (b' := false) 49 rfl (congrArg Value.bool h56) rfl ?_
      refine za (zm (u := (.bool false)) ((rfl : _ = _).trans (congrArg Value.bool h56)) rfl ?_)
      refine za (zd (v := (.bool false)) rfl ?_)
      refine zi (b' := false) 56 rfl rfl rfl ?_
      refine zi (b' := false) 56 rfl rfl rfl ?_
      refine zi (b' := false) 56 rfl rfl rfl ?_
      refine zA 59 rfl rfl ?_
      refine zA 59 rfl rfl ?_
      refine zA 59 rfl rfl ?_
      refine zA 59 rfl rfl ?_
      refine zA 59 rfl rfl ?_
      refine zi (b' := false) 56 rfl rfl rfl ?_
      refine za (zm (u := (.bool false)) rfl rfl ?_)
      refine zf ?_
      refine zc (hK55 _ _ ?_)
      refine zS rfl rfl ?_
      refine wp_skip ?_
      refine zG ?_
      refine zc (hK32 _ _ ?_)
      refine zb ?_
      refine za (zH (a := (i : Int)) (b := 1) e24_22 rfl (w64 (by omega) (by omega)) ?_)
      refine za (zd (v := (.int .i64 ((i : Int) + 1))) rfl ?_)
      refine zf ?_
      have hH68 : Has E w53 [[Hp.one b17 (.cells #[(.int .i64 bh.seq), (.int .i64 bh.ep), (.int .i64 bh.cut), (.int .i64 bh.st), (.int .i64 bh.mrk)] 23 (0, 0))], sg, [Hp.one pb (.cells #[(.bool p.off), (.bool p.armed), (.int .i64 p.left), (.int .i64 p.uses)] 145 (0, 0))], [Hp.one b2 (.cells #[(.int .i64 0), (.int .i64 0), (.int .i64 0), (.int .i64 0), (.int .i64 0)] 23 (0, 0))], R] := (((((hH54.front 5 rfl).front 5 rfl).front 4 rfl).front 4 rfl).front 5 rfl).first 5 rfl
      refine zc ⟨2 - (i + 1), _, rfl, ?_, ?_⟩
      · omega
      · exact ⟨(i + 1), bh, fd, (decide ((Lib.trimB (readS p la ([] : List (Int × Bs)) (x + (i : Int))) 0) = ([] : List UInt8))), rfl, hH68, (by omega), (ldG_no hld hsec_ (by first | exact .inl (by simpa using h11) | exact .inr (.inl h11) | exact .inl (by simpa using h31) | exact .inr (.inl h31) | exact .inl (by simpa using h40) | exact .inr (.inl h40) | exact .inl (by simpa using h42) | exact .inr (.inl h42) | exact .inl (by simpa using h56) | exact .inr (.inl h56))), ((blG_step hbl hsec_ hsl_).trans (by first | rfl | (rw [h42]; rfl) | simp [h42])), e24_0, e24_1, e24_4, e24_6, e24_7, e24_8, rfl, e24_19, rfl⟩
    ·
     refine zi (b' := false) 38 rfl (congrArg Value.bool h42) rfl ?_
     refine zi (b' := false) 38 rfl (congrArg Value.bool h42) rfl ?_
     refine zi (b' := false) 38 rfl (congrArg Value.bool h42) rfl ?_
     refine za (zm (u := (.bool false)) ((rfl : _ = _).trans (congrArg Value.bool h42)) rfl ?_)
     refine za (ze (v := (.bool false)) rfl ?_)
     refine zf ?_
     refine zc (hK41 _ _ ?_)
     refine wp_seq_k fun K69 hK69 => ?_
     refine zb ?_
     refine za (zd (v := (S (readS p la ([] : List (Int × Bs)) (x + (i : Int))))) rfl ?_)
     refine za (zk (vs := #[(S (readS p la ([] : List (Int × Bs)) (x + (i : Int))))]) ca190 rfl (zF rfl) (hread_c (s := (readS p la ([] : List (Int × Bs)) (x + (i : Int)))) hH36.all (hg.mono (zh 4 rfl)) (by first | omega | (simp only []; omega) | (simp; done) | (simp; omega))) ?_)
     rintro _ w72 ⟨rfl, hX70⟩
     refine ⟨_, rfl, ?_⟩
     have hH71 := hX70.of_all
     have hnn_ := hdP_nn (readS p la ([] : List (Int × Bs)) (x + (i : Int)))
     refine za (zd (v := (.tuple #[(.agg #[(.int .i64 ((hdP (readS p la ([] : List (Int × Bs)) (x + (i : Int)))).1).seq), (.int .i64 ((hdP (readS p la ([] : List (Int × Bs)) (x + (i : Int)))).1).ep), (.int .i64 ((hdP (readS p la ([] : List (Int × Bs)) (x + (i : Int)))).1).cut), (.int .i64 ((hdP (readS p la ([] : List (Int × Bs)) (x + (i : Int)))).1).st), (.int .i64 ((hdP (readS p la ([] : List (Int × Bs)) (x + (i : Int)))).1).mrk)]), (.bool ((hdP (readS p la ([] : List (Int × Bs)) (x + (i : Int)))).2))])) rfl ?_)
     refine za (zp (v := (.agg #[(.int .i64 ((hdP (readS p la ([] : List (Int × Bs)) (x + (i : Int)))).1).seq), (.int .i64 ((hdP (readS p la ([] : List (Int × Bs)) (x + (i : Int)))).1).ep), (.int .i64 ((hdP (readS p la ([] : List (Int × Bs)) (x + (i : Int)))).1).cut), (.int .i64 ((hdP (readS p la ([] : List (Int × Bs)) (x + (i : Int)))).1).st), (.int .i64 ((hdP (readS p la ([] : List (Int × Bs)) (x + (i : Int)))).1).mrk)])) rfl rfl ?_)
     refine za (zp (v := (.bool ((hdP (readS p la ([] : List (Int × Bs)) (x + (i : Int)))).2))) rfl rfl ?_)
     refine za (zU (cs := #[(.int .i64 0), (.int .i64 0), (.int .i64 0), (.int .i64 0), (.int .i64 0)]) zR rfl hH71 fun b73 w74 hH75 => ?_)
     refine zB (zw (vs := [(.int .i64 ((hdP (readS p la ([] : List (Int × Bs)) (x + (i : Int)))).1).seq), (.int .i64 ((hdP (readS p la ([] : List (Int × Bs)) (x + (i : Int)))).1).ep), (.int .i64 ((hdP (readS p la ([] : List (Int × Bs)) (x + (i : Int)))).1).cut), (.int .i64 ((hdP (readS p la ([] : List (Int × Bs)) (x + (i : Int)))).1).st), (.int .i64 ((hdP (readS p la ([] : List (Int × Bs)) (x + (i : Int)))).1).mrk)]) (c' := #[(.int .i64 ((hdP (readS p la ([] : List (Int × Bs)) (x + (i : Int)))).1).seq), (.int .i64 ((hdP (readS p la ([] : List (Int × Bs)) (x + (i : Int)))).1).ep), (.int .i64 ((hdP (readS p la ([] : List (Int × Bs)) (x + (i : Int)))).1).cut), (.int .i64 ((hdP (readS p la ([] : List (Int × Bs)) (x + (i : Int)))).1).st), (.int .i64 ((hdP (readS p la ([] : List (Int × Bs)) (x + (i : Int)))).1).mrk)]) zR rfl rfl rfl rfl (by intro u hu; simp only [List.mem_cons, List.not_mem_nil, or_false] at hu; rcases hu with rfl | rfl | rfl | rfl | rfl <;> first | rfl) (by simp) (by kernel_rfl) (hH75.front 0 rfl) fun w76 hH77 => ?_)
     refine za (ze (v := (.bool ((hdP (readS p la ([] : List (Int × Bs)) (x + (i : Int)))).2))) rfl ?_)
     refine zf ?_
     refine zc (hK69 _ _ ?_)
     refine wp_seq_k fun K78 hK78 => ?_
     refine zb ?_
     refine za (zd (v := (.bool ((hdP (readS p la ([] : List (Int × Bs)) (x + (i : Int)))).2))) rfl ?_)
     refine za (zd (v := (.bool ((hdP (readS p la ([] : List (Int × Bs)) (x + (i : Int)))).2))) rfl ?_)
     rcases Bool.eq_false_or_eq_true ((hdP (readS p la ([] : List (Int × Bs)) (x + (i : Int)))).2) with h79 | h79
     ·
      refine zn 49 rfl (congrArg Value.bool h79) (zg (k := 0) (fun _ => by kernel_rfl) rfl ?_)
      refine zn 49 rfl (congrArg Value.bool h79) (zj (v := (.int .i64 ((hdP (readS p la ([] : List (Int × Bs)) (x + (i : Int)))).1).seq)) Tryz.underlying3 rfl rfl hH77 (zh 0 rfl) (CellsAt.one rfl) ?_)
      refine zn 49 rfl (congrArg Value.bool h79) (o_rem (a := ((hdP (readS p la ([] : List (Int × Bs)) (x + (i : Int)))).1).seq) (b := 2) (c := (((hdP (readS p la ([] : List (Int × Bs)) (x + (i : Int)))).1).seq) % 2) rfl rfl (by omega) ((Int.tmod_eq_emod_of_nonneg (by first | exact Int.natCast_nonneg _ | omega))) ?_)
      refine zn 49 rfl (congrArg Value.bool h79) (zd (v := (.int .i64 (i : Int))) rfl ?_)
      refine zn 49 rfl (congrArg Value.bool h79) (yd (a := (((hdP (readS p la ([] : List (Int × Bs)) (x + (i : Int)))).1).seq) % 2) (b := (i : Int)) rfl rfl ?_)
      refine za (zo (u := (.bool (decide ((((hdP (readS p la ([] : List (Int × Bs)) (x + (i : Int)))).1).seq) % 2 = (i : Int))))) ((rfl : _ = _).trans (congrArg Value.bool h79)) rfl ?_)
      refine za (zd (v := (.bool (decide ((((hdP (readS p la ([] : List (Int × Bs)) (x + (i : Int)))).1).seq) % 2 = (i : Int))))) rfl ?_)
      by_cases h80 : (((hdP (readS p la ([] : List (Int × Bs)) (x + (i : Int)))).1).seq) % 2 = (i : Int)
      ·
       refine zn 56 rfl (cT h80) (zd (v := (.bool fd)) e24_8 ?_)
       refine zn 56 rfl (cT h80) (o_not rfl ?_)
       refine zn 56 rfl (cT h80) (zd (v := (.bool (!fd))) rfl ?_)
       rcases Bool.eq_false_or_eq_true (!fd) with h81 | h81
       ·
        have h81_n : fd = false := by first | simpa using h81 | exact Bool.of_not_eq_true (fun g_ => by rw [g_] at h81; cases h81)
        refine zi (b' := true) 59 rfl (congrArg Value.bool h81) rfl ?_
        refine zi (b' := true) 59 rfl (congrArg Value.bool h81) rfl ?_
        refine zi (b' := true) 59 rfl (congrArg Value.bool h81) rfl ?_
        refine zi (b' := true) 59 rfl (congrArg Value.bool h81) rfl ?_
        refine zi (b' := true) 59 rfl (congrArg Value.bool h81) rfl ?_
        refine zn 56 rfl (cT h80) (zo (u := (.bool true)) ((rfl : _ = _).trans (congrArg Value.bool h81)) rfl ?_)
        refine za (zo (u := (.bool true)) ((rfl : _ = _).trans (cT h80)) rfl ?_)
        refine zf ?_
        refine zc (hK78 _ _ ?_)
        refine zN rfl rfl ?_
        refine zb ?_
        refine za (zC (cs := [(.int .i64 ((hdP (readS p la ([] : List (Int × Bs)) (x + (i : Int)))).1).seq), (.int .i64 ((hdP (readS p la ([] : List (Int × Bs)) (x + (i : Int)))).1).ep), (.int .i64 ((hdP (readS p la ([] : List (Int × Bs)) (x + (i : Int)))).1).cut), (.int .i64 ((hdP (readS p la ([] : List (Int × Bs)) (x + (i : Int)))).1).st), (.int .i64 ((hdP (readS p la ([] : List (Int × Bs)) (x + (i : Int)))).1).mrk)]) Tryz.underlying23 rfl zR rfl hH77 (zh 0 rfl) (CellsAt.one rfl) ?_)
        refine zB (zw (vs := [(.int .i64 ((hdP (readS p la ([] : List (Int × Bs)) (x + (i : Int)))).1).seq), (.int .i64 ((hdP (readS p la ([] : List (Int × Bs)) (x + (i : Int)))).1).ep), (.int .i64 ((hdP (readS p la ([] : List (Int × Bs)) (x + (i : Int)))).1).cut), (.int .i64 ((hdP (readS p la ([] : List (Int × Bs)) (x + (i : Int)))).1).st), (.int .i64 ((hdP (readS p la ([] : List (Int × Bs)) (x + (i : Int)))).1).mrk)]) (c' := #[(.int .i64 ((hdP (readS p la ([] : List (Int × Bs)) (x + (i : Int)))).1).seq), (.int .i64 ((hdP (readS p la ([] : List (Int × Bs)) (x + (i : Int)))).1).ep), (.int .i64 ((hdP (readS p la ([] : List (Int × Bs)) (x + (i : Int)))).1).cut), (.int .i64 ((hdP (readS p la ([] : List (Int × Bs)) (x + (i : Int)))).1).st), (.int .i64 ((hdP (readS p la ([] : List (Int × Bs)) (x + (i : Int)))).1).mrk)]) zR e24_7 rfl rfl rfl (by intro u hu; simp only [List.mem_cons, List.not_mem_nil, or_false] at hu; rcases hu with rfl | rfl | rfl | rfl | rfl <;> first | rfl) (by simp) (by kernel_rfl) (hH77.front 3 rfl) fun w82 hH83 => ?_)
        refine za (ze (v := (.bool true)) rfl ?_)
        refine zf ?_
        refine zG ?_
        refine zc (hK32 _ _ ?_)
        refine zb ?_
        refine za (zH (a := (i : Int)) (b := 1) e24_22 rfl (w64 (by omega) (by omega)) ?_)
        refine za (zd (v := (.int .i64 ((i : Int) + 1))) rfl ?_)
        refine zf ?_
        have hH84 : Has E w82 [[Hp.one b17 (.cells #[(.int .i64 ((hdP (readS p la ([] : List (Int × Bs)) (x + (i : Int)))).1).seq), (.int .i64 ((hdP (readS p la ([] : List (Int × Bs)) (x + (i : Int)))).1).ep), (.int .i64 ((hdP (readS p la ([] : List (Int × Bs)) (x + (i : Int)))).1).cut), (.int .i64 ((hdP (readS p la ([] : List (Int × Bs)) (x + (i : Int)))).1).st), (.int .i64 ((hdP (readS p la ([] : List (Int × Bs)) (x + (i : Int)))).1).mrk)] 23 (0, 0))], sg, [Hp.one pb (.cells #[(.bool p.off), (.bool p.armed), (.int .i64 p.left), (.int .i64 p.uses)] 145 (0, 0))], [Hp.one b2 (.cells #[(.int .i64 0), (.int .i64 0), (.int .i64 0), (.int .i64 0), (.int .i64 0)] 23 (0, 0))], R] := (((((hH83.front 5 rfl).front 5 rfl).front 5 rfl).front 5 rfl).front 4 rfl).first 5 rfl
        refine zc ⟨2 - (i + 1), _, rfl, ?_, ?_⟩
        · omega
        · exact ⟨(i + 1), ((hdP (readS p la ([] : List (Int × Bs)) (x + (i : Int)))).1), true, false, rfl, hH84, (by omega), (ldG_yes hld hsec_ (by first | (simpa using h11) | (simpa using h31) | (simpa using h40) | (simpa using h42) | (simpa using h79) | (simpa using h80) | (simpa using h81) | (simpa using h81_n)) (by first | exact h11 | exact h31 | exact h40 | exact h42 | exact h79 | exact h80 | exact h81 | exact h81_n) (by first | exact .inr (by omega) | exact .inl (by simpa using h11) | exact .inl (by simpa using h31) | exact .inl (by simpa using h40) | exact .inl (by simpa using h42) | exact .inl (by simpa using h79) | exact .inl (by simpa using h80) | exact .inl (by simpa using h81) | exact .inl (by simpa using h81_n))), ((blG_step hbl hsec_ hsl_).trans (by first | rfl | (rw [h42]; rfl) | simp [h42])), e24_0, e24_1, e24_4, e24_6, e24_7, rfl, rfl, e24_19, rfl⟩
       ·
        have h81_n : fd = true := by first | simpa using h81 | exact Bool.of_not_eq_false (fun g_ => by rw [g_] at h81; cases h81)
        refine zn 59 rfl (congrArg Value.bool h81) (zg (k := 0) (fun _ => by kernel_rfl) rfl ?_)
        refine zn 59 rfl (congrArg Value.bool h81) (zj (v := (.int .i64 ((hdP (readS p la ([] : List (Int × Bs)) (x + (i : Int)))).1).seq)) Tryz.underlying3 rfl rfl hH77 (zh 0 rfl) (CellsAt.one rfl) ?_)
        refine zn 59 rfl (congrArg Value.bool h81) (zg (k := 0) (fun _ => by kernel_rfl) e24_7 ?_)
        refine zn 59 rfl (congrArg Value.bool h81) (zj (v := (.int .i64 bh.seq)) Tryz.underlying3 rfl rfl hH77 (zh 3 rfl) (CellsAt.one rfl) ?_)
        refine zn 59 rfl (congrArg Value.bool h81) (o_gtr (a := ((hdP (readS p la ([] : List (Int × Bs)) (x + (i : Int)))).1).seq) (b := bh.seq) rfl rfl ?_)
        refine zn 56 rfl (cT h80) (zm (u := (.bool (decide (bh.seq < ((hdP (readS p la ([] : List (Int × Bs)) (x + (i : Int)))).1).seq)))) ((rfl : _ = _).trans (congrArg Value.bool h81)) rfl ?_)
        refine za (zo (u := (.bool (decide (bh.seq < ((hdP (readS p la ([] : List (Int × Bs)) (x + (i : Int)))).1).seq)))) ((rfl : _ = _).trans (cT h80)) rfl ?_)
        refine zf ?_
        refine zc (hK78 _ _ ?_)
        refine zt rfl (fun h85 => ?_) (fun h85 => ?_)
        ·
         refine zb ?_
         refine za (zC (cs := [(.int .i64 ((hdP (readS p la ([] : List (Int × Bs)) (x + (i : Int)))).1).seq), (.int .i64 ((hdP (readS p la ([] : List (Int × Bs)) (x + (i : Int)))).1).ep), (.int .i64 ((hdP (readS p la ([] : List (Int × Bs)) (x + (i : Int)))).1).cut), (.int .i64 ((hdP (readS p la ([] : List (Int × Bs)) (x + (i : Int)))).1).st), (.int .i64 ((hdP (readS p la ([] : List (Int × Bs)) (x + (i : Int)))).1).mrk)]) Tryz.underlying23 rfl zR rfl hH77 (zh 0 rfl) (CellsAt.one rfl) ?_)
         refine zB (zw (vs := [(.int .i64 ((hdP (readS p la ([] : List (Int × Bs)) (x + (i : Int)))).1).seq), (.int .i64 ((hdP (readS p la ([] : List (Int × Bs)) (x + (i : Int)))).1).ep), (.int .i64 ((hdP (readS p la ([] : List (Int × Bs)) (x + (i : Int)))).1).cut), (.int .i64 ((hdP (readS p la ([] : List (Int × Bs)) (x + (i : Int)))).1).st), (.int .i64 ((hdP (readS p la ([] : List (Int × Bs)) (x + (i : Int)))).1).mrk)]) (c' := #[(.int .i64 ((hdP (readS p la ([] : List (Int × Bs)) (x + (i : Int)))).1).seq), (.int .i64 ((hdP (readS p la ([] : List (Int × Bs)) (x + (i : Int)))).1).ep), (.int .i64 ((hdP (readS p la ([] : List (Int × Bs)) (x + (i : Int)))).1).cut), (.int .i64 ((hdP (readS p la ([] : List (Int × Bs)) (x + (i : Int)))).1).st), (.int .i64 ((hdP (readS p la ([] : List (Int × Bs)) (x + (i : Int)))).1).mrk)]) zR e24_7 rfl rfl rfl (by intro u hu; simp only [List.mem_cons, List.not_mem_nil, or_false] at hu; rcases hu with rfl | rfl | rfl | rfl | rfl <;> first | rfl) (by simp) (by kernel_rfl) (hH77.front 3 rfl) fun w86 hH87 => ?_)
         refine za (ze (v := (.bool true)) rfl ?_)
         refine zf ?_
         refine zG ?_
         refine zc (hK32 _ _ ?_)
         refine zb ?_
         refine za (zH (a := (i : Int)) (b := 1) e24_22 rfl (w64 (by omega) (by omega)) ?_)
         refine za (zd (v := (.int .i64 ((i : Int) + 1))) rfl ?_)
         refine zf ?_
         have hH88 : Has E w86 [[Hp.one b17 (.cells #[(.int .i64 ((hdP (readS p la ([] : List (Int × Bs)) (x + (i : Int)))).1).seq), (.int .i64 ((hdP (readS p la ([] : List (Int × Bs)) (x + (i : Int)))).1).ep), (.int .i64 ((hdP (readS p la ([] : List (Int × Bs)) (x + (i : Int)))).1).cut), (.int .i64 ((hdP (readS p la ([] : List (Int × Bs)) (x + (i : Int)))).1).st), (.int .i64 ((hdP (readS p la ([] : List (Int × Bs)) (x + (i : Int)))).1).mrk)] 23 (0, 0))], sg, [Hp.one pb (.cells #[(.bool p.off), (.bool p.armed), (.int .i64 p.left), (.int .i64 p.uses)] 145 (0, 0))], [Hp.one b2 (.cells #[(.int .i64 0), (.int .i64 0), (.int .i64 0), (.int .i64 0), (.int .i64 0)] 23 (0, 0))], R] := (((((hH87.front 5 rfl).front 5 rfl).front 5 rfl).front 5 rfl).front 4 rfl).first 5 rfl
         refine zc ⟨2 - (i + 1), _, rfl, ?_, ?_⟩
         · omega
         · exact ⟨(i + 1), ((hdP (readS p la ([] : List (Int × Bs)) (x + (i : Int)))).1), true, false, rfl, hH88, (by omega), (ldG_yes hld hsec_ (by first | (simpa using h11) | (simpa using h31) | (simpa using h40) | (simpa using h42) | (simpa using h79) | (simpa using h80) | (simpa using h81) | (simpa using h81_n) | (simpa using h85)) (by first | exact h11 | exact h31 | exact h40 | exact h42 | exact h79 | exact h80 | exact h81 | exact h81_n | exact h85) (by first | exact .inr (by omega) | exact .inl (by simpa using h11) | exact .inl (by simpa using h31) | exact .inl (by simpa using h40) | exact .inl (by simpa using h42) | exact .inl (by simpa using h79) | exact .inl (by simpa using h80) | exact .inl (by simpa using h81) | exact .inl (by simpa using h81_n) | exact .inl (by simpa using h85))), ((blG_step hbl hsec_ hsl_).trans (by first | rfl | (rw [h42]; rfl) | simp [h42])), e24_0, e24_1, e24_4, e24_6, e24_7, rfl, rfl, e24_19, rfl⟩
        ·
         refine wp_skip ?_
         refine zG ?_
         refine zc (hK32 _ _ ?_)
         refine zb ?_
         refine za (zH (a := (i : Int)) (b := 1) e24_22 rfl (w64 (by omega) (by omega)) ?_)
         refine za (zd (v := (.int .i64 ((i : Int) + 1))) rfl ?_)
         refine zf ?_
         have hH89 : Has E w76 [[Hp.one b17 (.cells #[(.int .i64 bh.seq), (.int .i64 bh.ep), (.int .i64 bh.cut), (.int .i64 bh.st), (.int .i64 bh.mrk)] 23 (0, 0))], sg, [Hp.one pb (.cells #[(.bool p.off), (.bool p.armed), (.int .i64 p.left), (.int .i64 p.uses)] 145 (0, 0))], [Hp.one b2 (.cells #[(.int .i64 0), (.int .i64 0), (.int .i64 0), (.int .i64 0), (.int .i64 0)] 23 (0, 0))], R] := (((((hH77.front 5 rfl).front 5 rfl).front 4 rfl).front 4 rfl).front 5 rfl).first 5 rfl
         refine zc ⟨2 - (i + 1), _, rfl, ?_, ?_⟩
         · omega
         · exact ⟨(i + 1), bh, fd, false, rfl, hH89, (by omega), (ldG_no hld hsec_ (.inr (.inr ⟨by first | (simpa using h11) | (simpa using h31) | (simpa using h40) | (simpa using h42) | (simpa using h79) | (simpa using h80) | (simpa using h81) | (simpa using h81_n) | (simpa using h85), by omega⟩))), ((blG_step hbl hsec_ hsl_).trans (by first | rfl | (rw [h42]; rfl) | simp [h42])), e24_0, e24_1, e24_4, e24_6, e24_7, e24_8, rfl, e24_19, rfl⟩
      ·
       refine zi (b' := false) 56 rfl (cF h80) rfl ?_
       refine zi (b' := false) 56 rfl (cF h80) rfl ?_
       refine zi (b' := false) 56 rfl (cF h80) rfl ?_
       refine zA 59 rfl rfl ?_
       refine zA 59 rfl rfl ?_
       refine zA 59 rfl rfl ?_
       refine zA 59 rfl rfl ?_
       refine zA 59 rfl rfl ?_
       refine zi (b' := false) 56 rfl (cF h80) rfl ?_
       refine za (zm (u := (.bool false)) ((rfl : _ = _).trans (cF h80)) rfl ?_)
       refine zf ?_
       refine zc (hK78 _ _ ?_)
       refine zS rfl rfl ?_
       refine wp_skip ?_
       refine zG ?_
       refine zc (hK32 _ _ ?_)
       refine zb ?_
       refine za (zH (a := (i : Int)) (b := 1) e24_22 rfl (w64 (by omega) (by omega)) ?_)
       refine za (zd (v := (.int .i64 ((i : Int) + 1))) rfl ?_)
       refine zf ?_
       have hH90 : Has E w76 [[Hp.one b17 (.cells #[(.int .i64 bh.seq), (.int .i64 bh.ep), (.int .i64 bh.cut), (.int .i64 bh.st), (.int .i64 bh.mrk)] 23 (0, 0))], sg, [Hp.one pb (.cells #[(.bool p.off), (.bool p.armed), (.int .i64 p.left), (.int .i64 p.uses)] 145 (0, 0))], [Hp.one b2 (.cells #[(.int .i64 0), (.int .i64 0), (.int .i64 0), (.int .i64 0), (.int .i64 0)] 23 (0, 0))], R] := (((((hH77.front 5 rfl).front 5 rfl).front 4 rfl).front 4 rfl).front 5 rfl).first 5 rfl
       refine zc ⟨2 - (i + 1), _, rfl, ?_, ?_⟩
       · omega
       · exact ⟨(i + 1), bh, fd, false, rfl, hH90, (by omega), (ldG_no hld hsec_ (by first | exact .inl (by simpa using h11) | exact .inr (.inl h11) | exact .inl (by simpa using h31) | exact .inr (.inl h31) | exact .inl (by simpa using h40) | exact .inr (.inl h40) | exact .inl (by simpa using h42) | exact .inr (.inl h42) | exact .inl (by simpa using h79) | exact .inr (.inl h79) | exact .inl (by simpa using h80) | exact .inr (.inl h80))), ((blG_step hbl hsec_ hsl_).trans (by first | rfl | (rw [h42]; rfl) | simp [h42])), e24_0, e24_1, e24_4, e24_6, e24_7, e24_8, rfl, e24_19, rfl⟩
     ·
      refine zi (b' := false) 49 rfl (congrArg Value.bool h79) rfl ?_
      refine zi (b' := false) 49 rfl (congrArg Value.bool h79) rfl ?_
      refine zi (b' := false) 49 rfl (congrArg Value.bool h79) rfl ?_
      refine zi (b' := false) 49 rfl (congrArg Value.bool h79) rfl ?_
      refine zi (b' := false) 49 rfl (congrArg Value.bool h79) rfl ?_
      refine za (zm (u := (.bool false)) ((rfl : _ = _).trans (congrArg Value.bool h79)) rfl ?_)
      refine za (zd (v := (.bool false)) rfl ?_)
      refine zi (b' := false) 56 rfl rfl rfl ?_
      refine zi (b' := false) 56 rfl rfl rfl ?_
      refine zi (b' := false) 56 rfl rfl rfl ?_
      refine zA 59 rfl rfl ?_
      refine zA 59 rfl rfl ?_
      refine zA 59 rfl rfl ?_
      refine zA 59 rfl rfl ?_
      refine zA 59 rfl rfl ?_
      refine zi (b' := false) 56 rfl rfl rfl ?_
      refine za (zm (u := (.bool false)) rfl rfl ?_)
      refine zf ?_
      refine zc (hK78 _ _ ?_)
      refine zS rfl rfl ?_
      refine wp_skip ?_
      refine zG ?_
      refine zc (hK32 _ _ ?_)
      refine zb ?_
      refine za (zH (a := (i : Int)) (b := 1) e24_22 rfl (w64 (by omega) (by omega)) ?_)
      refine za (zd (v := (.int .i64 ((i : Int) + 1))) rfl ?_)
      refine zf ?_
      have hH91 : Has E w76 [[Hp.one b17 (.cells #[(.int .i64 bh.seq), (.int .i64 bh.ep), (.int .i64 bh.cut), (.int .i64 bh.st), (.int .i64 bh.mrk)] 23 (0, 0))], sg, [Hp.one pb (.cells #[(.bool p.off), (.bool p.armed), (.int .i64 p.left), (.int .i64 p.uses)] 145 (0, 0))], [Hp.one b2 (.cells #[(.int .i64 0), (.int .i64 0), (.int .i64 0), (.int .i64 0), (.int .i64 0)] 23 (0, 0))], R] := (((((hH77.front 5 rfl).front 5 rfl).front 4 rfl).front 4 rfl).front 5 rfl).first 5 rfl
      refine zc ⟨2 - (i + 1), _, rfl, ?_, ?_⟩
      · omega
      · exact ⟨(i + 1), bh, fd, false, rfl, hH91, (by omega), (ldG_no hld hsec_ (by first | exact .inl (by simpa using h11) | exact .inr (.inl h11) | exact .inl (by simpa using h31) | exact .inr (.inl h31) | exact .inl (by simpa using h40) | exact .inr (.inl h40) | exact .inl (by simpa using h42) | exact .inr (.inl h42) | exact .inl (by simpa using h79) | exact .inr (.inl h79))), ((blG_step hbl hsec_ hsl_).trans (by first | rfl | (rw [h42]; rfl) | simp [h42])), e24_0, e24_1, e24_4, e24_6, e24_7, e24_8, rfl, e24_19, rfl⟩
  ·
   refine wp_exit ?_
   refine zx (zx (x_in (?_)))
   refine zc (hK21 _ _ ?_)
   refine wp_seq_k fun K92 hK92 => ?_
   refine wp_block ?_
   refine wp_seq_k fun K93 hK93 => ?_
   refine zb ?_
   refine za (zd (v := (.bool fd)) e24_8 ?_)
   refine za (ze (v := (.bool fd)) rfl ?_)
   refine zf ?_
   refine zc (hK93 _ _ ?_)
   refine zX rfl (fun h94 => ?_) (fun h94 => ?_)
   ·
    refine wp_seq_k fun K95 hK95 => ?_
    refine zb ?_
    refine za (zC (cs := [(.int .i64 bh.seq), (.int .i64 bh.ep), (.int .i64 bh.cut), (.int .i64 bh.st), (.int .i64 bh.mrk)]) Tryz.underlying23 rfl zR e24_7 hH27 (zh 0 rfl) (CellsAt.one rfl) ?_)
    refine zB (zw (vs := [(.int .i64 bh.seq), (.int .i64 bh.ep), (.int .i64 bh.cut), (.int .i64 bh.st), (.int .i64 bh.mrk)]) (c' := #[(.int .i64 bh.seq), (.int .i64 bh.ep), (.int .i64 bh.cut), (.int .i64 bh.st), (.int .i64 bh.mrk)]) zR e24_4 rfl rfl rfl (by intro u hu; simp only [List.mem_cons, List.not_mem_nil, or_false] at hu; rcases hu with rfl | rfl | rfl | rfl | rfl <;> first | rfl) (by simp) (by kernel_rfl) (hH27.front 3 rfl) fun w96 hH97 => ?_)
    refine za (ze (v := (.int .i64 0)) rfl ?_)
    refine zf ?_
    refine zc (hK95 _ _ ?_)
    refine wp_ret ?_
    refine b_ret (zv (zZ Tryz.results97 e24_4 (zy (cs := [(.int .i64 bh.seq), (.int .i64 bh.ep), (.int .i64 bh.cut), (.int .i64 bh.st), (.int .i64 bh.mrk)]) Tryz.underlying23 rfl zR hH97 (zh 0 rfl) (CellsAt.one rfl)) (x := (.int .i64 0)) rfl ?_))
    have hH98 : Has E w96 [sg, [Hp.one pb (.cells #[(.bool p.off), (.bool p.armed), (.int .i64 p.left), (.int .i64 p.uses)] 145 (0, 0))], R] := (((hH97.front 4 rfl).front 4 rfl).front 4 rfl).first 3 rfl
    have ei_ : i = 2 := by omega
    subst ei_
    obtain ⟨e1_, e2_⟩ := ld_two hth_.1 hth_.2
    rw [hld] at e1_ e2_
    rw [hbl] at e2_
    exact ⟨by rw [e1_, e2_]; simp only [h94]; rfl, hH98⟩
   ·
    refine wp_seq_k fun K99 hK99 => ?_
    refine zb ?_
    refine za (zd (v := (.bool bl)) e24_9 ?_)
    refine za (ze (v := (.bool bl)) rfl ?_)
    refine zf ?_
    refine zc (hK99 _ _ ?_)
    refine zX rfl (fun h100 => ?_) (fun h100 => ?_)
    ·
     refine wp_seq_k fun K101 hK101 => ?_
     refine zb ?_
     refine za (zK (v := (.agg #[(.int .i64 0), (.int .i64 0), (.int .i64 0), (.int .i64 0), (.int .i64 0)])) (fun _ => by kernel_rfl) ?_)
     refine zB (zw (vs := [(.int .i64 0), (.int .i64 0), (.int .i64 0), (.int .i64 0), (.int .i64 0)]) (c' := #[(.int .i64 0), (.int .i64 0), (.int .i64 0), (.int .i64 0), (.int .i64 0)]) zR e24_4 rfl rfl rfl (by intro u hu; simp only [List.mem_cons, List.not_mem_nil, or_false] at hu; rcases hu with rfl | rfl | rfl | rfl | rfl <;> first | rfl) (by simp) (by kernel_rfl) (hH27.front 3 rfl) fun w102 hH103 => ?_)
     refine za (ze (v := (.int .i64 7)) rfl ?_)
     refine zf ?_
     refine zc (hK101 _ _ ?_)
     refine wp_ret ?_
     refine b_ret (zv (zZ Tryz.results97 e24_4 (zy (cs := [(.int .i64 0), (.int .i64 0), (.int .i64 0), (.int .i64 0), (.int .i64 0)]) Tryz.underlying23 rfl zR hH103 (zh 0 rfl) (CellsAt.one rfl)) (x := (.int .i64 7)) rfl ?_))
     have hH104 : Has E w102 [sg, [Hp.one pb (.cells #[(.bool p.off), (.bool p.armed), (.int .i64 p.left), (.int .i64 p.uses)] 145 (0, 0))], R] := (((hH103.front 4 rfl).front 4 rfl).front 4 rfl).first 3 rfl
     have ei_ : i = 2 := by omega
     subst ei_
     obtain ⟨e1_, e2_⟩ := ld_two hth_.1 hth_.2
     rw [hld] at e1_ e2_
     rw [hbl] at e2_
     exact ⟨by rw [e1_, e2_]; simp only [h94, h100]; rfl, hH104⟩
    ·
     refine wp_skip ?_
     refine zG ?_
     refine zc (hK92 _ _ ?_)
     refine wp_seq_k fun K105 hK105 => ?_
     refine zb ?_
     refine za (zK (v := (.agg #[(.int .i64 0), (.int .i64 0), (.int .i64 0), (.int .i64 0), (.int .i64 0)])) (fun _ => by kernel_rfl) ?_)
     refine zB (zw (vs := [(.int .i64 0), (.int .i64 0), (.int .i64 0), (.int .i64 0), (.int .i64 0)]) (c' := #[(.int .i64 0), (.int .i64 0), (.int .i64 0), (.int .i64 0), (.int .i64 0)]) zR e24_4 rfl rfl rfl (by intro u hu; simp only [List.mem_cons, List.not_mem_nil, or_false] at hu; rcases hu with rfl | rfl | rfl | rfl | rfl <;> first | rfl) (by simp) (by kernel_rfl) (hH27.front 3 rfl) fun w106 hH107 => ?_)
     refine za (ze (v := (.int .i64 9)) rfl ?_)
     refine zf ?_
     refine zc (hK105 _ _ ?_)
     refine wp_ret ?_
     refine zZ Tryz.results97 e24_4 (zy (cs := [(.int .i64 0), (.int .i64 0), (.int .i64 0), (.int .i64 0), (.int .i64 0)]) Tryz.underlying23 rfl zR hH107 (zh 0 rfl) (CellsAt.one rfl)) (x := (.int .i64 9)) rfl ?_
     have hH108 : Has E w106 [sg, [Hp.one pb (.cells #[(.bool p.off), (.bool p.armed), (.int .i64 p.left), (.int .i64 p.uses)] 145 (0, 0))], R] := (((hH107.front 4 rfl).front 4 rfl).front 4 rfl).first 3 rfl
     have ei_ : i = 2 := by omega
     subst ei_
     obtain ⟨e1_, e2_⟩ := ld_two hth_.1 hth_.2
     rw [hld] at e1_ e2_
     rw [hbl] at e2_
     exact ⟨by rw [e1_, e2_]; simp only [h94, h100]; rfl, hH108⟩
end Go.Q
