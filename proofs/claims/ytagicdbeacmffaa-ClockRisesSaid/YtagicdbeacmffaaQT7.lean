/-
  Parts of a walk: what functions of the program compute, each told by a theorem.
-/
import Derived.Test.YtagicdbeacmffaaQT6
import Derived.Test.YtagicdbeacmffaaQT3
import Derived.Test.YtagicdbeacmffaaQM
set_option linter.unusedVariables false
set_option linter.unusedSimpArgs false
namespace Go.Q
open Go.Proofs
set_option linter.unusedVariables false
set_option maxRecDepth 100000
attribute [local irreducible] wpList OK Code.wp
theorem cpeek_t {E w : World} {R hs : List Hp} {b m1 m2 c1 c2 : Nat} {hi : Int} {v : Value} {es1 es2 : Array MapEntry} {str : List Int} {pg tx : List (Int × Int)} (hH : Has E w [hs, [Hp.one m1 (.map es1 c1)], [Hp.one m2 (.map es2 c2)], [Hp.one b (.cells #[(.int .i64 hi), v, (.map (some m1)), (.map (some m2))] 75 (0, 0))], R]) (ho : Own 3 1 v str.length (str.map iV) hs) (h1 : MapII es1 pg) (h2 : MapII es2 tx) (hge : ∀ q ∈ str, (0 : Int) ≤ q) (x y z t : Int) (hx : 0 ≤ x ∧ x < (str.length : Int)) (hl : ¬ 4611686018427387903 ≤ (List.foldl max ((str[x.toNat]?).getD 0) [getI pg y, getI tx z])) (ht : (List.foldl max ((str[x.toNat]?).getD 0) [getI pg y, getI tx z]) + 1 = t) :
    Calls Try.prog 18 #[(.pointer (some ⟨b, 0, none⟩)), .int .i64 x, .int .i64 y, .int .i64 z] w fun e w' => e = .returned (.tuple #[.int .i64 t, .int .i64 0]) ∧ Has E w' [hs, [Hp.one m1 (.map es1 c1)], [Hp.one m2 (.map es2 c2)], [Hp.one b (.cells #[(.int .i64 hi), v, (.map (some m1)), (.map (some m2))] 75 (0, 0))], R] := by
  subst ht; exact cpeek_ok hH ho h1 h2 hge x y z hx hl
set_option maxHeartbeats 4000000 in
theorem ctick_c {E w : World} {R hs : List Hp} {b m1 m2 c1 c2 : Nat} {hi : Int} {v : Value} {es1 es2 : Array MapEntry} {str : List Int} {pg tx : List (Int × Int)} (hH : Has E w [hs, [Hp.one m1 (.map es1 c1)], [Hp.one m2 (.map es2 c2)], [Hp.one b (.cells #[(.int .i64 hi), v, (.map (some m1)), (.map (some m2))] 75 (0, 0))], R]) (ho : Own 3 1 v str.length (str.map iV) hs) (h1 : MapII es1 pg) (h2 : MapII es2 tx) (hge : ∀ q ∈ str, (0 : Int) ≤ q) (x y z t : Int) (hx : 0 ≤ x ∧ x < (str.length : Int)) (hl : ¬ 4611686018427387903 ≤ (List.foldl max ((str[x.toNat]?).getD 0) [getI pg y, getI tx z])) (ht : (List.foldl max ((str[x.toNat]?).getD 0) [getI pg y, getI tx z]) + 1 = t) :
    Calls Try.prog 17 #[(.pointer (some ⟨b, 0, none⟩)), (.int .i64 x), (.int .i64 y), (.int .i64 z)] w fun e w' => ∃ hs' es1' c1' es2' c2', e = .returned (.tuple #[.int .i64 t, .int .i64 0]) ∧ Own 3 1 v (str.set x.toNat t).length ((str.set x.toNat t).map iV) hs' ∧ MapII es1' (if 0 ≤ y then putI pg y t else pg) ∧ MapII es2' (if 0 ≤ z then putI tx z t else tx) ∧ Has E w' [hs', [Hp.one m1 (.map es1' c1')], [Hp.one m2 (.map es2' c2')], [Hp.one b (.cells #[(.int .i64 (max hi t)), v, (.map (some m1)), (.map (some m2))] 75 (0, 0))], R] := by
  refine c_enter (args := [(.pointer (some ⟨b, 0, none⟩)), (.int .i64 x), (.int .i64 y), (.int .i64 z)]) Try.func17 rfl Try.ntmps17 (by simp) ?_
  refine wp_seq_k fun K1 hK1 => ?_
  refine c_region ?_
  refine s_op (o_assign (v := (.int .i64 0)) rfl ?_)
  refine s_op (o_assign (v := (.int .i64 0)) rfl ?_)
  refine s_nil ?_
  refine t_norm (hK1 _ _ ?_)
  refine wp_seq_k fun K2 hK2 => ?_
  refine c_region ?_
  refine s_op (o_move (v := (.pointer (some ⟨b, 0, none⟩))) rfl ?_)
  refine s_op (o_move (v := (.int .i64 x)) rfl ?_)
  refine s_op (o_move (v := (.int .i64 y)) rfl ?_)
  refine s_op (o_move (v := (.int .i64 z)) rfl ?_)
  refine s_op (o_callf (vs := #[(.pointer (some ⟨b, 0, none⟩)), (.int .i64 x), (.int .i64 y), (.int .i64 z)]) ca18 rfl (args4 rfl rfl rfl rfl) (cpeek_t ((((hH.front 3 rfl).front 3 rfl).front 3 rfl).front 3 rfl).all4 ho h1 h2 hge x y z t hx hl ht) ?_)
  rintro _ w5 ⟨rfl, hX3⟩
  refine ⟨_, rfl, ?_⟩
  have hH4 : Has E w5 [hs, [Hp.one m1 (.map es1 c1)], [Hp.one m2 (.map es2 c2)], [Hp.one b (.cells #[(.int .i64 hi), v, (.map (some m1)), (.map (some m2))] 75 (0, 0))], R] := hX3.of_all4
  refine s_op (o_move (v := (.tuple #[(.int .i64 t), (.int .i64 (0 : Int))])) rfl ?_)
  refine s_op (o_extract (v := (.int .i64 t)) rfl rfl ?_)
  refine s_op (o_extract (v := (.int .i64 (0 : Int))) rfl rfl ?_)
  refine s_op (o_assign (v := (.int .i64 t)) rfl ?_)
  refine s_op (o_assign (v := (.int .i64 (0 : Int))) rfl ?_)
  refine s_nil ?_
  refine t_norm (hK2 _ _ ?_)
  refine wp_seq_k fun K6 hK6 => ?_
  refine wp_seq_k fun K7 hK7 => ?_
  refine c_region ?_
  refine s_op (o_move (v := (.int .i64 (0 : Int))) rfl ?_)
  refine s_op (o_neq (a := (0 : Int)) (b := 0) rfl rfl ?_)
  refine s_nil ?_
  refine t_norm (hK7 _ _ ?_)
  refine c_cond rfl (fun h8 => ?_) (fun h8 => ?_)
  · -- (0 : Int) ≠ 0
    exact absurd rfl h8
  · -- not: (0 : Int) ≠ 0
    refine wp_skip ?_
    refine t_norm (hK6 _ _ ?_)
    refine wp_seq_k fun K9 hK9 => ?_
    have hH19 : Has E w5 [[Hp.one m1 (.map es1 c1)], [Hp.one m2 (.map es2 c2)], R, [Hp.one b (.cells #[(.int .i64 hi), v, (.map (some m1)), (.map (some m2))] 75 (0, 0))], hs] := (((((hH4.front 0 rfl).front 3 rfl).front 4 rfl).front 4 rfl).front 4 rfl).first 5 rfl
    refine c_flow [[Hp.one m1 (.map es1 c1)], [Hp.one m2 (.map es2 c2)], R] (fun i_ => match i_ with | 9 => [Hp.one b (.cells #[(.int .i64 hi), v, (.map (some m1)), (.map (some m2))] 75 (0, 0))] | 11 => hs | _ => []) (fun i_ v_ h_ => match i_ with | 0 => v_ = (.pointer (some ⟨b, 0, none⟩)) ∧ h_ = [] | 1 => v_ = (.pointer (some ⟨b, 0, none⟩)) ∧ h_ = [] | 2 => v_ = (.pointer (some ⟨b, 1, none⟩)) ∧ h_ = [] | 3 => v_ = v ∧ h_ = [] | 4 => v_ = (.int .i64 x) ∧ h_ = [] | 5 => v_ = (.pointer (some ⟨b, 0, none⟩)) ∧ h_ = [] | 6 => v_ = (.pointer (some ⟨b, 0, none⟩)) ∧ h_ = [] | 7 => v_ = (.pointer (some ⟨b, 0, none⟩)) ∧ h_ = [] | 8 => v_ = (.int .i64 t) ∧ h_ = [] | 9 => v_ = (.int .i64 t) ∧ h_ = [Hp.one b (.cells #[(.int .i64 (max hi t)), v, (.map (some m1)), (.map (some m2))] 75 (0, 0))] | 10 => ∃ (b13 : Nat), v_ = (.pointer (some ⟨b13, (x).toNat, none⟩)) ∧ h_ = [] ∧ (OwnAt 3 v str.length (str.map iV) hs b13) | 11 => ∃ (s15 : List Hp), v_ = undef ∧ h_ = s15 ∧ (Own 3 1 v (str.set ((x).toNat) t).length ((str.set ((x).toNat) t).map iV) s15) | _ => True) mixed (by kernel_rfl) (flow_has (cs := [[Hp.one b (.cells #[(.int .i64 hi), v, (.map (some m1)), (.map (some m2))] 75 (0, 0))], hs]) hH19 rfl) ?_ ?_
    · intro i_ o_ ho_ r' w' G hs_ ht
      match i_, ho_ with
      | 0, ho_ =>
        obtain rfl := Option.some.inj ho_
        have e0 : r' 0 = (.pointer (some ⟨b, 0, none⟩)) := ht.was 0 (by kernel_rfl)
        have hG := ht.has.drop
        refine o_move (v := (.pointer (some ⟨b, 0, none⟩))) e0 ?_
        exact ⟨_, ⟨rfl, rfl⟩, hG⟩
      | 1, ho_ =>
        obtain rfl := Option.some.inj ho_
        obtain ⟨e23, eh0⟩ := (ht.done 0 _ rfl rfl).1
        have hG := ht.has.drop
        refine o_nilCheck e23 ?_
        exact ⟨_, ⟨rfl, rfl⟩, hG⟩
      | 2, ho_ =>
        obtain rfl := Option.some.inj ho_
        obtain ⟨e24, eh1⟩ := (ht.done 1 _ rfl rfl).1
        have hG := ht.has.drop
        refine o_fieldAddr (k := 1) (fun _ => by kernel_rfl) e24 ?_
        exact ⟨_, ⟨rfl, rfl⟩, hG⟩
      | 3, ho_ =>
        obtain rfl := Option.some.inj ho_
        obtain ⟨e25, eh2⟩ := (ht.done 2 _ rfl rfl).1
        have hG := ht.has.drop
        rcases ht.each 9 _ rfl (by decide) with hL_ | ⟨⟨_, hT_⟩, hL_⟩
        ·
          refine o_load1 (v := v) Try.underlying28 rfl e25 hG hL_ (CellsAt.one rfl) ?_
          exact ⟨_, ⟨rfl, rfl⟩, hG⟩
        ·
          obtain ⟨_, eh_⟩ := hT_
          refine o_load1 (v := v) Try.underlying28 rfl e25 hG (eh_ ▸ hL_) (CellsAt.one rfl) ?_
          exact ⟨_, ⟨rfl, rfl⟩, hG⟩
      | 4, ho_ =>
        obtain rfl := Option.some.inj ho_
        have e1 : r' 1 = (.int .i64 x) := ht.was 1 (by kernel_rfl)
        have hG := ht.has.drop
        refine o_move (v := (.int .i64 x)) e1 ?_
        exact ⟨_, ⟨rfl, rfl⟩, hG⟩
      | 5, ho_ =>
        obtain rfl := Option.some.inj ho_
        have e0 : r' 0 = (.pointer (some ⟨b, 0, none⟩)) := ht.was 0 (by kernel_rfl)
        have hG := ht.has.drop
        refine o_move (v := (.pointer (some ⟨b, 0, none⟩))) e0 ?_
        exact ⟨_, ⟨rfl, rfl⟩, hG⟩
      | 6, ho_ =>
        obtain rfl := Option.some.inj ho_
        obtain ⟨e28, eh5⟩ := (ht.done 5 _ rfl rfl).1
        have hG := ht.has.drop
        refine o_nilCheck e28 ?_
        exact ⟨_, ⟨rfl, rfl⟩, hG⟩
      | 7, ho_ =>
        obtain rfl := Option.some.inj ho_
        obtain ⟨e29, eh6⟩ := (ht.done 6 _ rfl rfl).1
        have hG := ht.has.drop
        refine o_fieldAddr (k := 0) (fun _ => by kernel_rfl) e29 ?_
        exact ⟨_, ⟨rfl, rfl⟩, hG⟩
      | 8, ho_ =>
        obtain rfl := Option.some.inj ho_
        have e10 : r' 10 = (.int .i64 t) := ht.was 10 (by kernel_rfl)
        have hG := ht.has.drop
        refine o_move (v := (.int .i64 t)) e10 ?_
        exact ⟨_, ⟨rfl, rfl⟩, hG⟩
      | 9, ho_ =>
        obtain rfl := Option.some.inj ho_
        obtain ⟨e30, eh7⟩ := (ht.done 7 _ rfl rfl).1
        obtain ⟨e31, eh8⟩ := (ht.done 8 _ rfl rfl).1
        have hG := ht.has
        refine o_callf (vs := #[(.pointer (some ⟨b, 0, none⟩)), (.int .i64 t)]) ca45 rfl (args2 e30 e31) (met_c hG.all1 t) ?_
        rintro _ w12 ⟨rfl, hX10⟩
        refine ⟨_, rfl, ?_⟩
        have hH11 := hX10.of_all1
        exact ⟨_, ⟨rfl, rfl⟩, hH11⟩
      | 10, ho_ =>
        obtain rfl := Option.some.inj ho_
        obtain ⟨e26, eh3⟩ := (ht.done 3 _ rfl rfl).1
        obtain ⟨e27, eh4⟩ := (ht.done 4 _ rfl rfl).1
        obtain ⟨e32, eh9⟩ := (ht.done 9 _ rfl rfl).1
        have hG := ht.has.drop
        refine o_ownAddr Try.underlying28 ti3 e26 ho e27 (by omega) (by omega) fun b13 ho14 => ?_
        exact ⟨_, ⟨b13, rfl, rfl, ho14⟩, hG⟩
      | 11, ho_ =>
        obtain rfl := Option.some.inj ho_
        obtain ⟨e32, eh9⟩ := (ht.done 9 _ rfl rfl).1
        obtain ⟨b13, e33, eh10, ho14⟩ := (ht.done 10 _ rfl rfl).1
        have hG := ht.has
        refine o_ownStore (f := iV) (l := str) (a := t) ti3 e33 e32 rfl ho14 (by omega) hG fun s15 w16 ho17 hH18 => ?_
        exact ⟨_, ⟨s15, rfl, rfl, ho17⟩, hH18⟩
      | i_ + 12, ho_ => exact absurd ho_ (by simp)
    · intro vs19 hs20 w21 hT22 hH23
      obtain ⟨e0_, eh0_⟩ := hT22 0 _ rfl
      obtain ⟨e1_, eh1_⟩ := hT22 1 _ rfl
      obtain ⟨e2_, eh2_⟩ := hT22 2 _ rfl
      obtain ⟨e3_, eh3_⟩ := hT22 3 _ rfl
      obtain ⟨e4_, eh4_⟩ := hT22 4 _ rfl
      obtain ⟨e5_, eh5_⟩ := hT22 5 _ rfl
      obtain ⟨e6_, eh6_⟩ := hT22 6 _ rfl
      obtain ⟨e7_, eh7_⟩ := hT22 7 _ rfl
      obtain ⟨e8_, eh8_⟩ := hT22 8 _ rfl
      obtain ⟨e9_, eh9_⟩ := hT22 9 _ rfl
      obtain ⟨b13, e10_, eh10_, ho14⟩ := hT22 10 _ rfl
      obtain ⟨s15, e11_, eh11_, ho17⟩ := hT22 11 _ rfl
      have hH24 : Has E w21 ([[Hp.one m1 (.map es1 c1)], [Hp.one m2 (.map es2 c2)], R] ++ [[Hp.one b (.cells #[(.int .i64 (max hi t)), v, (.map (some m1)), (.map (some m2))] 75 (0, 0))], s15]) := flow_back (cs := [[Hp.one b (.cells #[(.int .i64 (max hi t)), v, (.map (some m1)), (.map (some m2))] 75 (0, 0))], s15]) hH23 (by show (hs20 0 ++ (hs20 1 ++ (hs20 2 ++ (hs20 3 ++ (hs20 4 ++ (hs20 5 ++ (hs20 6 ++ (hs20 7 ++ (hs20 8 ++ (hs20 9 ++ (hs20 10 ++ (hs20 11 ++ [])))))))))))) = _; rw [eh0_, eh1_, eh2_, eh3_, eh4_, eh5_, eh6_, eh7_, eh8_, eh9_, eh10_, eh11_]; rfl)
      generalize hr26 : puts vs19 _ 0 _ = r25
      have e27_0 : r25 0 = (.pointer (some ⟨b, 0, none⟩)) := by rw [← hr26]; exact rfl
      have e27_1 : r25 1 = (.int .i64 x) := by rw [← hr26]; exact rfl
      have e27_2 : r25 2 = (.int .i64 y) := by rw [← hr26]; exact rfl
      have e27_3 : r25 3 = (.int .i64 z) := by rw [← hr26]; exact rfl
      have e27_8 : r25 8 = (.int .i64 0) := by rw [← hr26]; exact rfl
      have e27_9 : r25 9 = (.int .i64 0) := by rw [← hr26]; exact rfl
      have e27_10 : r25 10 = (.int .i64 t) := by rw [← hr26]; exact rfl
      have e27_11 : r25 11 = (.int .i64 (0 : Int)) := by rw [← hr26]; exact rfl
      have e27_21 : r25 21 = (.bool (decide ((0 : Int) ≠ 0))) := by rw [← hr26]; exact rfl
      refine t_norm (hK9 _ _ ?_)
      refine wp_seq_k fun K28 hK28 => ?_
      refine wp_seq_k fun K29 hK29 => ?_
      refine c_region ?_
      refine s_op (o_move (v := (.int .i64 y)) e27_2 ?_)
      refine s_op (o_geq (a := y) (b := 0) rfl rfl ?_)
      refine s_nil ?_
      refine t_norm (hK29 _ _ ?_)
      refine c_cond rfl (fun h30 => ?_) (fun h30 => ?_)
      · -- 0 ≤ y
        refine c_region ?_
        refine s_op (o_move (v := (.pointer (some ⟨b, 0, none⟩))) e27_0 ?_)
        refine s_op (o_nilCheck rfl ?_)
        refine s_op (o_fieldAddr (k := 2) (fun _ => by kernel_rfl) rfl ?_)
        refine s_op (o_load1 (v := (.map (some m1))) Try.underlying71 rfl rfl hH24 (seg_sub 3 rfl) (CellsAt.one rfl) ?_)
        refine s_op (o_move (v := (.int .i64 y)) e27_2 ?_)
        refine s_op (o_move (v := (.int .i64 t)) e27_10 ?_)
        refine s_eff (o_mapUpdateI Try.underlying71 Try.underlying3 rfl rfl rfl hH24 h1 fun es31 c32 w33 he34 hH35 => ?_)
        refine s_nil ?_
        refine t_norm (hK28 _ _ ?_)
        refine wp_seq_k fun K36 hK36 => ?_
        refine wp_seq_k fun K37 hK37 => ?_
        refine c_region ?_
        refine s_op (o_move (v := (.int .i64 z)) e27_3 ?_)
        refine s_op (o_geq (a := z) (b := 0) rfl rfl ?_)
        refine s_nil ?_
        refine t_norm (hK37 _ _ ?_)
        refine c_cond rfl (fun h38 => ?_) (fun h38 => ?_)
        · -- 0 ≤ z
          refine c_region ?_
          refine s_op (o_move (v := (.pointer (some ⟨b, 0, none⟩))) e27_0 ?_)
          refine s_op (o_nilCheck rfl ?_)
          refine s_op (o_fieldAddr (k := 3) (fun _ => by kernel_rfl) rfl ?_)
          refine s_op (o_load1 (v := (.map (some m2))) Try.underlying71 rfl rfl hH35 (seg_sub 3 rfl) (CellsAt.one rfl) ?_)
          refine s_op (o_move (v := (.int .i64 z)) e27_3 ?_)
          refine s_op (o_move (v := (.int .i64 t)) e27_10 ?_)
          refine s_eff (o_mapUpdateI Try.underlying71 Try.underlying3 rfl rfl rfl (hH35.front 1 rfl) h2 fun es39 c40 w41 he42 hH43 => ?_)
          refine s_nil ?_
          refine t_norm (hK36 _ _ ?_)
          refine wp_seq_k fun K44 hK44 => ?_
          refine c_region ?_
          refine s_op (o_move (v := (.int .i64 t)) e27_10 ?_)
          refine s_op (o_assign (v := (.int .i64 t)) rfl ?_)
          refine s_op (o_assign (v := (.int .i64 0)) rfl ?_)
          refine s_nil ?_
          refine t_norm (hK44 _ _ ?_)
          refine wp_ret ?_
          refine c_ret2 Try.results17 (v := (.int .i64 t)) rfl (x := (.int .i64 0)) rfl ?_
          have hH45 : Has E w41 [s15, [Hp.one m1 (.map es31 c32)], [Hp.one m2 (.map es39 c40)], [Hp.one b (.cells #[(.int .i64 (max hi t)), v, (.map (some m1)), (.map (some m2))] 75 (0, 0))], R] := (((((hH43.front 2 rfl).front 3 rfl).front 2 rfl).front 3 rfl).front 4 rfl).first 5 rfl
          exact ⟨_, _, _, _, _, rfl, ho17, (by rw [if_pos (by omega)]; exact he34), (by rw [if_pos (by omega)]; exact he42), hH45⟩
        · -- not: 0 ≤ z
          refine wp_skip ?_
          refine t_norm (hK36 _ _ ?_)
          refine wp_seq_k fun K46 hK46 => ?_
          refine c_region ?_
          refine s_op (o_move (v := (.int .i64 t)) e27_10 ?_)
          refine s_op (o_assign (v := (.int .i64 t)) rfl ?_)
          refine s_op (o_assign (v := (.int .i64 0)) rfl ?_)
          refine s_nil ?_
          refine t_norm (hK46 _ _ ?_)
          refine wp_ret ?_
          refine c_ret2 Try.results17 (v := (.int .i64 t)) rfl (x := (.int .i64 0)) rfl ?_
          have hH47 : Has E w33 [s15, [Hp.one m1 (.map es31 c32)], [Hp.one m2 (.map es2 c2)], [Hp.one b (.cells #[(.int .i64 (max hi t)), v, (.map (some m1)), (.map (some m2))] 75 (0, 0))], R] := (((((hH35.front 2 rfl).front 3 rfl).front 3 rfl).front 3 rfl).front 4 rfl).first 5 rfl
          exact ⟨_, _, _, _, _, rfl, ho17, (by rw [if_pos (by omega)]; exact he34), (by rw [if_neg (by omega)]; exact h2), hH47⟩
      · -- not: 0 ≤ y
        refine wp_skip ?_
        refine t_norm (hK28 _ _ ?_)
        refine wp_seq_k fun K48 hK48 => ?_
        refine wp_seq_k fun K49 hK49 => ?_
        refine c_region ?_
        refine s_op (o_move (v := (.int .i64 z)) e27_3 ?_)
        refine s_op (o_geq (a := z) (b := 0) rfl rfl ?_)
        refine s_nil ?_
        refine t_norm (hK49 _ _ ?_)
        refine c_cond rfl (fun h50 => ?_) (fun h50 => ?_)
        · -- 0 ≤ z
          refine c_region ?_
          refine s_op (o_move (v := (.pointer (some ⟨b, 0, none⟩))) e27_0 ?_)
          refine s_op (o_nilCheck rfl ?_)
          refine s_op (o_fieldAddr (k := 3) (fun _ => by kernel_rfl) rfl ?_)
          refine s_op (o_load1 (v := (.map (some m2))) Try.underlying71 rfl rfl hH24 (seg_sub 3 rfl) (CellsAt.one rfl) ?_)
          refine s_op (o_move (v := (.int .i64 z)) e27_3 ?_)
          refine s_op (o_move (v := (.int .i64 t)) e27_10 ?_)
          refine s_eff (o_mapUpdateI Try.underlying71 Try.underlying3 rfl rfl rfl (hH24.front 1 rfl) h2 fun es51 c52 w53 he54 hH55 => ?_)
          refine s_nil ?_
          refine t_norm (hK48 _ _ ?_)
          refine wp_seq_k fun K56 hK56 => ?_
          refine c_region ?_
          refine s_op (o_move (v := (.int .i64 t)) e27_10 ?_)
          refine s_op (o_assign (v := (.int .i64 t)) rfl ?_)
          refine s_op (o_assign (v := (.int .i64 0)) rfl ?_)
          refine s_nil ?_
          refine t_norm (hK56 _ _ ?_)
          refine wp_ret ?_
          refine c_ret2 Try.results17 (v := (.int .i64 t)) rfl (x := (.int .i64 0)) rfl ?_
          have hH57 : Has E w53 [s15, [Hp.one m1 (.map es1 c1)], [Hp.one m2 (.map es51 c52)], [Hp.one b (.cells #[(.int .i64 (max hi t)), v, (.map (some m1)), (.map (some m2))] 75 (0, 0))], R] := (((((hH55.front 2 rfl).front 3 rfl).front 2 rfl).front 3 rfl).front 4 rfl).first 5 rfl
          exact ⟨_, _, _, _, _, rfl, ho17, (by rw [if_neg (by omega)]; exact h1), (by rw [if_pos (by omega)]; exact he54), hH57⟩
        · -- not: 0 ≤ z
          refine wp_skip ?_
          refine t_norm (hK48 _ _ ?_)
          refine wp_seq_k fun K58 hK58 => ?_
          refine c_region ?_
          refine s_op (o_move (v := (.int .i64 t)) e27_10 ?_)
          refine s_op (o_assign (v := (.int .i64 t)) rfl ?_)
          refine s_op (o_assign (v := (.int .i64 0)) rfl ?_)
          refine s_nil ?_
          refine t_norm (hK58 _ _ ?_)
          refine wp_ret ?_
          refine c_ret2 Try.results17 (v := (.int .i64 t)) rfl (x := (.int .i64 0)) rfl ?_
          have hH59 : Has E w21 [s15, [Hp.one m1 (.map es1 c1)], [Hp.one m2 (.map es2 c2)], [Hp.one b (.cells #[(.int .i64 (max hi t)), v, (.map (some m1)), (.map (some m2))] 75 (0, 0))], R] := (((((hH24.front 2 rfl).front 3 rfl).front 3 rfl).front 3 rfl).front 4 rfl).first 5 rfl
          exact ⟨_, _, _, _, _, rfl, ho17, (by rw [if_neg (by omega)]; exact h1), (by rw [if_neg (by omega)]; exact h2), hH59⟩
end Go.Q
