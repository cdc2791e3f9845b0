/-
  Parts of a walk: what functions of the program compute, each told by a theorem.
-/
import Derived.Test.YtcffibbdbalmjaaQE4
set_option linter.unusedVariables false
set_option linter.unusedSimpArgs false
namespace Go.Q
open Go.Proofs
set_option linter.unusedVariables false
set_option maxRecDepth 100000
attribute [local irreducible] wpList OK Code.wp
set_option maxHeartbeats 4000000 in
theorem write_i {E w : World} {R hL : List Hp} {pb db mb c : Nat} {p : Pw} {v : Value} {es : Array MapEntry} {la : List Bs} {lo : List (Int × Bs)} (hH : Has E w [hL, [Hp.one mb (.map es c)], [Hp.one db (.cells #[(.pointer (some ⟨pb, 0, none⟩)), v, (.map (some mb))] 137 (0, 0))], [Hp.one pb (.cells #[(.bool p.off), (.bool p.armed), (.int .i64 p.left), (.int .i64 p.uses)] 101 (0, 0))], R]) (ho : Own 9 1 v la.length (la.map sV) hL) (hm : MapV iV sV es c lo) (hp : PwOk p) (hla : la.length ≤ 4096) (n : Int) {vd : Value} {l : List Bs} (hd : Sl R 1 vd l.length (l.map sV)) (hn : l.length ≤ 1000000) (hl : l.flatten.length ≤ 1000000000) :
    Calls Try.prog 29 #[(.pointer (some ⟨db, 0, none⟩)), (.int .i64 n), vd] w fun e w' => ∃ es' c', e = .returned (.int .i64 (writeE p la.length n l.flatten)) ∧ MapV iV sV es' c' (writeS p la.length lo n l.flatten) ∧ Has E w' [hL, [Hp.one mb (.map es' c')], [Hp.one db (.cells #[(.pointer (some ⟨pb, 0, none⟩)), v, (.map (some mb))] 137 (0, 0))], [Hp.one pb (.cells #[(.bool (useS p).off), (.bool (useS p).armed), (.int .i64 (useS p).left), (.int .i64 (useS p).uses)] 101 (0, 0))], R] := by
  have hn_ := hd.le
  refine c_enter (args := [(.pointer (some ⟨db, 0, none⟩)), (.int .i64 n), vd]) Try.func29 rfl Try.ntmps29 (by simp) ?_
  refine wp_seq_k fun K1 hK1 => ?_
  refine c_region ?_
  refine s_op (o_assign (v := (.int .i64 0)) rfl ?_)
  refine s_nil ?_
  refine t_norm (hK1 _ _ ?_)
  refine wp_seq_k fun K2 hK2 => ?_
  refine wp_seq_k fun K3 hK3 => ?_
  refine c_region ?_
  refine s_op (o_move (v := (.pointer (some ⟨db, 0, none⟩))) rfl ?_)
  refine s_op (o_pnil (p := some _) Try.underlying46 rfl rfl ?_)
  refine s_nil ?_
  refine t_norm (hK3 _ _ ?_)
  refine c_false rfl rfl ?_
  refine wp_skip ?_
  refine t_norm (hK2 _ _ ?_)
  refine wp_seq_k fun K4 hK4 => ?_
  refine wp_seq_k fun K5 hK5 => ?_
  refine c_region ?_
  refine s_op (o_move (v := (.pointer (some ⟨db, 0, none⟩))) rfl ?_)
  refine s_op (o_nilCheck rfl ?_)
  refine s_op (o_fieldAddr (k := 0) (fun _ => by kernel_rfl) rfl ?_)
  refine s_op (o_load1 (v := (.pointer (some ⟨pb, 0, none⟩))) Try.underlying99 rfl rfl hH (seg_sub 2 rfl) (CellsAt.one rfl) ?_)
  refine s_op (o_callf (vs := #[(.pointer (some ⟨pb, 0, none⟩))]) ca83 rfl (args1 rfl) (use_c (p := p) (hH.front 3 rfl).all1 hp) ?_)
  rintro _ w8 ⟨rfl, hX6⟩
  refine ⟨_, rfl, ?_⟩
  have hH7 : Has E w8 [[Hp.one pb (.cells #[(.bool (useS p).off), (.bool (useS p).armed), (.int .i64 (useS p).left), (.int .i64 (useS p).uses)] 101 (0, 0))], hL, [Hp.one mb (.map es c)], [Hp.one db (.cells #[(.pointer (some ⟨pb, 0, none⟩)), v, (.map (some mb))] 137 (0, 0))], R] := hX6.of_all1
  refine s_op (o_not rfl ?_)
  refine s_nil ?_
  refine t_norm (hK5 _ _ ?_)
  refine c_condb rfl (fun h9 => ?_) (fun h9 => ?_)
  · -- !(useB p)
    have h9_n : (useB p) = false := by simpa using h9
    refine wp_seq_k fun K10 hK10 => ?_
    refine c_region ?_
    refine s_op (o_assign (v := (.int .i64 6)) rfl ?_)
    refine s_nil ?_
    refine t_norm (hK10 _ _ ?_)
    refine wp_ret ?_
    refine t_ret (c_ret1 Try.results29  (v := (.int .i64 6)) rfl ?_)
    have hH11 : Has E w8 [hL, [Hp.one mb (.map es c)], [Hp.one db (.cells #[(.pointer (some ⟨pb, 0, none⟩)), v, (.map (some mb))] 137 (0, 0))], [Hp.one pb (.cells #[(.bool (useS p).off), (.bool (useS p).armed), (.int .i64 (useS p).left), (.int .i64 (useS p).uses)] 101 (0, 0))], R] := (((((hH7.front 4 rfl).front 1 rfl).front 4 rfl).front 4 rfl).front 4 rfl).first 5 rfl
    exact ⟨_, _, by rw [writeE, if_neg (ne_true_of_eq_false h9_n)], by rw [writeS, if_neg (fun g => (ne_true_of_eq_false h9_n) g.1)]; exact hm, hH11⟩
  · -- not: !(useB p)
    have h9_n : (useB p) = true := by simpa using h9
    refine wp_skip ?_
    refine t_norm (hK4 _ _ ?_)
    refine wp_seq_k fun K12 hK12 => ?_
    refine c_region ?_
    refine s_op (o_move (v := vd) rfl ?_)
    refine s_op (o_callf (vs := #[vd]) ca84 rfl (args1 rfl) (filled_c hH7.all (l := l) (hd.mono (seg_sub 4 rfl)) (by omega) (by omega)) ?_)
    rintro _ w15 ⟨rfl, hX13⟩
    refine ⟨_, rfl, ?_⟩
    have hH14 := hX13.of_all
    refine s_op (o_move (v := (.tuple #[(S (if l.flatten.length ≤ 64 then fillS l.flatten else [])), (.bool (decide (l.flatten.length ≤ 64)))])) rfl ?_)
    refine s_op (o_extract (v := (S (if l.flatten.length ≤ 64 then fillS l.flatten else []))) rfl rfl ?_)
    refine s_op (o_extract (v := (.bool (decide (l.flatten.length ≤ 64)))) rfl rfl ?_)
    refine s_op (o_assign (v := (S (if l.flatten.length ≤ 64 then fillS l.flatten else []))) rfl ?_)
    refine s_op (o_assign (v := (.bool (decide (l.flatten.length ≤ 64)))) rfl ?_)
    refine s_nil ?_
    refine t_norm (hK12 _ _ ?_)
    refine wp_seq_k fun K16 hK16 => ?_
    refine wp_seq_k fun K17 hK17 => ?_
    refine c_region ?_
    refine s_op (o_move (v := (.bool (decide (l.flatten.length ≤ 64)))) rfl ?_)
    refine s_op (o_not2 (b := decide (l.flatten.length ≤ 64)) (b' := decide (¬ (l.flatten.length ≤ 64))) rfl not_dec ?_)
    refine s_op (o_move (v := (.bool (decide (¬ (l.flatten.length ≤ 64))))) rfl ?_)
    by_cases h18 : ¬ (l.flatten.length ≤ 64)
    · -- ¬ (l.flatten.length ≤ 64)
      refine s_off (b' := true) 24 rfl (congrArg Value.bool (decide_eq_true h18)) rfl ?_
      refine s_off (b' := true) 24 rfl (congrArg Value.bool (decide_eq_true h18)) rfl ?_
      refine s_off (b' := true) 24 rfl (congrArg Value.bool (decide_eq_true h18)) rfl ?_
      refine s_off (b' := true) 24 rfl (congrArg Value.bool (decide_eq_true h18)) rfl ?_
      refine s_op (o_pick_t (u := (.bool true)) ((rfl : _ = _).trans (congrArg Value.bool (decide_eq_true h18))) rfl ?_)
      refine s_nil ?_
      refine t_norm (hK17 _ _ ?_)
      refine c_true rfl rfl ?_
      refine wp_seq_k fun K19 hK19 => ?_
      refine c_region ?_
      refine s_op (o_assign (v := (.int .i64 1)) rfl ?_)
      refine s_nil ?_
      refine t_norm (hK19 _ _ ?_)
      refine wp_ret ?_
      refine t_ret (c_ret1 Try.results29  (v := (.int .i64 1)) rfl ?_)
      have hH20 : Has E w15 [hL, [Hp.one mb (.map es c)], [Hp.one db (.cells #[(.pointer (some ⟨pb, 0, none⟩)), v, (.map (some mb))] 137 (0, 0))], [Hp.one pb (.cells #[(.bool (useS p).off), (.bool (useS p).armed), (.int .i64 (useS p).left), (.int .i64 (useS p).uses)] 101 (0, 0))], R] := (((((hH14.front 4 rfl).front 1 rfl).front 4 rfl).front 4 rfl).front 4 rfl).first 5 rfl
      exact ⟨_, _, by rw [writeE, if_pos h9_n, if_neg (fun g => h18 g.1)], by rw [writeS, if_neg (fun g => h18 g.2.1)]; exact hm, hH20⟩
    · -- not: ¬ (l.flatten.length ≤ 64)
      refine s_on 24 rfl (congrArg Value.bool (decide_eq_false h18)) (o_move (v := (.pointer (some ⟨db, 0, none⟩))) rfl ?_)
      refine s_on 24 rfl (congrArg Value.bool (decide_eq_false h18)) (o_move (v := (.int .i64 n)) rfl ?_)
      refine s_on 24 rfl (congrArg Value.bool (decide_eq_false h18)) (o_callf (vs := #[(.pointer (some ⟨db, 0, none⟩)), (.int .i64 n)]) ca85 rfl (args2 rfl rfl) (has_i (p := (useS p)) (la := la) (lo := lo) (((hH14.front 3 rfl).front 3 rfl).front 3 rfl).all4 ho hm n) ?_)
      rintro _ w23 ⟨rfl, hX21⟩
      refine ⟨_, rfl, ?_⟩
      have hH22 : Has E w23 [hL, [Hp.one mb (.map es c)], [Hp.one db (.cells #[(.pointer (some ⟨pb, 0, none⟩)), v, (.map (some mb))] 137 (0, 0))], [Hp.one pb (.cells #[(.bool (useS p).off), (.bool (useS p).armed), (.int .i64 (useS p).left), (.int .i64 (useS p).uses)] 101 (0, 0))], R] := hX21.of_all4
      refine s_on 24 rfl (congrArg Value.bool (decide_eq_false h18)) (o_not2 (b := decide (inS n la.length)) (b' := decide (¬ (inS n la.length))) rfl not_dec ?_)
      refine s_op (o_pick_f (u := (.bool (decide (¬ (inS n la.length))))) ((rfl : _ = _).trans (congrArg Value.bool (decide_eq_false h18))) rfl ?_)
      refine s_nil ?_
      refine t_norm (hK17 _ _ ?_)
      refine c_cond rfl (fun h24 => ?_) (fun h24 => ?_)
      · -- ¬ (inS n la.length)
        refine wp_seq_k fun K25 hK25 => ?_
        refine c_region ?_
        refine s_op (o_assign (v := (.int .i64 1)) rfl ?_)
        refine s_nil ?_
        refine t_norm (hK25 _ _ ?_)
        refine wp_ret ?_
        refine t_ret (c_ret1 Try.results29  (v := (.int .i64 1)) rfl ?_)
        exact ⟨_, _, by rw [writeE, if_pos h9_n, if_neg (fun g => h24 g.2)], by rw [writeS, if_neg (fun g => h24 g.2.2)]; exact hm, hH22⟩
      · -- not: ¬ (inS n la.length)
        refine wp_skip ?_
        refine t_norm (hK16 _ _ ?_)
        refine wp_seq_k fun K26 hK26 => ?_
        refine c_region ?_
        refine s_op (o_move (v := (.pointer (some ⟨db, 0, none⟩))) rfl ?_)
        refine s_op (o_nilCheck rfl ?_)
        refine s_op (o_fieldAddr (k := 2) (fun _ => by kernel_rfl) rfl ?_)
        refine s_op (o_load1 (v := (.map (some mb))) Try.underlying135 rfl rfl hH22 (seg_sub 2 rfl) (CellsAt.one rfl) ?_)
        refine s_op (o_move (v := (.int .i64 n)) rfl ?_)
        refine s_op (o_move (v := (S (if l.flatten.length ≤ 64 then fillS l.flatten else []))) rfl ?_)
        refine s_eff (o_mapUpdateB (gk := iV) (f := sV) (k := n) (v := (if l.flatten.length ≤ 64 then fillS l.flatten else [])) Try.underlying135 (key_int Try.underlying3) rfl rfl rfl (hH22.front 1 rfl) hm fun es27 c28 w29 he30 hH31 => ?_)
        refine s_nil ?_
        refine t_norm (hK26 _ _ ?_)
        refine wp_seq_k fun K32 hK32 => ?_
        refine c_region ?_
        refine s_op (o_assign (v := (.int .i64 0)) rfl ?_)
        refine s_nil ?_
        refine t_norm (hK32 _ _ ?_)
        refine wp_ret ?_
        refine c_ret1 Try.results29  (v := (.int .i64 0)) rfl ?_
        have hH33 : Has E w29 [hL, [Hp.one mb (.map es27 c28)], [Hp.one db (.cells #[(.pointer (some ⟨pb, 0, none⟩)), v, (.map (some mb))] 137 (0, 0))], [Hp.one pb (.cells #[(.bool (useS p).off), (.bool (useS p).armed), (.int .i64 (useS p).left), (.int .i64 (useS p).uses)] 101 (0, 0))], R] := (((((hH31.front 4 rfl).front 4 rfl).front 4 rfl).front 3 rfl).front 4 rfl).first 5 rfl
        exact ⟨_, _, by rw [writeE, if_pos h9_n, if_pos ⟨(Classical.not_not.1 h18), (Classical.not_not.1 h24)⟩], by rw [writeS, if_pos ⟨h9_n, (Classical.not_not.1 h18), (Classical.not_not.1 h24)⟩]; rw [if_pos (Classical.not_not.1 h18)] at he30; exact he30, hH33⟩
set_option maxHeartbeats 4000000 in
theorem sync_i {E w : World} {R hL : List Hp} {pb db mb c : Nat} {p : Pw} {v : Value} {es : Array MapEntry} {la : List Bs} {lo : List (Int × Bs)} (hH : Has E w [hL, [Hp.one mb (.map es c)], [Hp.one db (.cells #[(.pointer (some ⟨pb, 0, none⟩)), v, (.map (some mb))] 137 (0, 0))], [Hp.one pb (.cells #[(.bool p.off), (.bool p.armed), (.int .i64 p.left), (.int .i64 p.uses)] 101 (0, 0))], R]) (ho : Own 9 1 v la.length (la.map sV) hL) (hm : MapV iV sV es c lo) (hp : PwOk p) (hla : la.length ≤ 4096) (hlo : LoOk lo la.length) :
    Calls Try.prog 31 #[(.pointer (some ⟨db, 0, none⟩))] w fun e w' => ∃ hL' es' c', e = .returned (.int .i64 (syncE p)) ∧ Own 9 1 v (syncA p la lo).length ((syncA p la lo).map sV) hL' ∧ MapV iV sV es' c' (syncO p lo) ∧ Has E w' [hL', [Hp.one mb (.map es' c')], [Hp.one db (.cells #[(.pointer (some ⟨pb, 0, none⟩)), v, (.map (some mb))] 137 (0, 0))], [Hp.one pb (.cells #[(.bool (useS p).off), (.bool (useS p).armed), (.int .i64 (useS p).left), (.int .i64 (useS p).uses)] 101 (0, 0))], R] := by
  refine c_enter (args := [(.pointer (some ⟨db, 0, none⟩))]) Try.func31 rfl Try.ntmps31 (by simp) ?_
  refine wp_seq_k fun K1 hK1 => ?_
  refine c_region ?_
  refine s_op (o_assign (v := (.int .i64 0)) rfl ?_)
  refine s_nil ?_
  refine t_norm (hK1 _ _ ?_)
  refine wp_seq_k fun K2 hK2 => ?_
  refine wp_seq_k fun K3 hK3 => ?_
  refine c_region ?_
  refine s_op (o_move (v := (.pointer (some ⟨db, 0, none⟩))) rfl ?_)
  refine s_op (o_pnil (p := some _) Try.underlying46 rfl rfl ?_)
  refine s_nil ?_
  refine t_norm (hK3 _ _ ?_)
  refine c_false rfl rfl ?_
  refine wp_skip ?_
  refine t_norm (hK2 _ _ ?_)
  refine wp_seq_k fun K4 hK4 => ?_
  refine wp_seq_k fun K5 hK5 => ?_
  refine c_region ?_
  refine s_op (o_move (v := (.pointer (some ⟨db, 0, none⟩))) rfl ?_)
  refine s_op (o_nilCheck rfl ?_)
  refine s_op (o_fieldAddr (k := 0) (fun _ => by kernel_rfl) rfl ?_)
  refine s_op (o_load1 (v := (.pointer (some ⟨pb, 0, none⟩))) Try.underlying99 rfl rfl hH (seg_sub 2 rfl) (CellsAt.one rfl) ?_)
  refine s_op (o_callf (vs := #[(.pointer (some ⟨pb, 0, none⟩))]) ca83 rfl (args1 rfl) (use_c (p := p) (hH.front 3 rfl).all1 hp) ?_)
  rintro _ w8 ⟨rfl, hX6⟩
  refine ⟨_, rfl, ?_⟩
  have hH7 : Has E w8 [[Hp.one pb (.cells #[(.bool (useS p).off), (.bool (useS p).armed), (.int .i64 (useS p).left), (.int .i64 (useS p).uses)] 101 (0, 0))], hL, [Hp.one mb (.map es c)], [Hp.one db (.cells #[(.pointer (some ⟨pb, 0, none⟩)), v, (.map (some mb))] 137 (0, 0))], R] := hX6.of_all1
  refine s_op (o_not rfl ?_)
  refine s_nil ?_
  refine t_norm (hK5 _ _ ?_)
  refine c_condb rfl (fun h9 => ?_) (fun h9 => ?_)
  · -- !(useB p)
    have h9_n : (useB p) = false := by simpa using h9
    refine wp_seq_k fun K10 hK10 => ?_
    refine c_region ?_
    refine s_op (o_assign (v := (.int .i64 6)) rfl ?_)
    refine s_nil ?_
    refine t_norm (hK10 _ _ ?_)
    refine wp_ret ?_
    refine t_ret (c_ret1 Try.results31  (v := (.int .i64 6)) rfl ?_)
    have hH11 : Has E w8 [hL, [Hp.one mb (.map es c)], [Hp.one db (.cells #[(.pointer (some ⟨pb, 0, none⟩)), v, (.map (some mb))] 137 (0, 0))], [Hp.one pb (.cells #[(.bool (useS p).off), (.bool (useS p).armed), (.int .i64 (useS p).left), (.int .i64 (useS p).uses)] 101 (0, 0))], R] := (((((hH7.front 4 rfl).front 1 rfl).front 4 rfl).front 4 rfl).front 4 rfl).first 5 rfl
    exact ⟨_, _, _, by rw [syncE, if_neg (ne_true_of_eq_false h9_n)], by rw [syncA, if_neg (ne_true_of_eq_false h9_n)]; exact ho, by rw [syncO, if_neg (ne_true_of_eq_false h9_n)]; exact hm, hH11⟩
  · -- not: !(useB p)
    have h9_n : (useB p) = true := by simpa using h9
    refine wp_skip ?_
    refine t_norm (hK4 _ _ ?_)
    refine wp_seq_k fun K12 hK12 => ?_
    refine c_region ?_
    refine s_op (o_move (v := (.pointer (some ⟨db, 0, none⟩))) rfl ?_)
    refine s_op (o_move (v := (.pointer (some ⟨db, 0, none⟩))) rfl ?_)
    refine s_op (o_callf (vs := #[(.pointer (some ⟨db, 0, none⟩))]) ca35 rfl (args1 rfl) (loose_i (p := (useS p)) (la := la) (lo := lo) (((hH7.front 3 rfl).front 3 rfl).front 3 rfl).all4 ho hm hlo (by omega)) ?_)
    rintro _ w18 ⟨v13, s14, rfl, ho15, hX16⟩
    refine ⟨_, rfl, ?_⟩
    have hH17 : Has E w18 [s14, hL, [Hp.one mb (.map es c)], [Hp.one db (.cells #[(.pointer (some ⟨pb, 0, none⟩)), v, (.map (some mb))] 137 (0, 0))], [Hp.one pb (.cells #[(.bool (useS p).off), (.bool (useS p).armed), (.int .i64 (useS p).left), (.int .i64 (useS p).uses)] 101 (0, 0))], R] := hX16.of_all5
    refine s_op (o_callf (vs := #[(.pointer (some ⟨db, 0, none⟩)), v13]) ca86 rfl (args2 rfl rfl) (settle_i (p := (useS p)) (la := la) (lo := lo) ((((hH17.front 4 rfl).front 4 rfl).front 4 rfl).front 4 rfl).all4 ho hm hlo (keep := (keysS lo)) (ho15.sl.mono (seg_sub 0 rfl))) ?_)
    rintro _ w26 ⟨s19, es21, c22, rfl, ho20, hm23, hX24⟩
    refine ⟨_, rfl, ?_⟩
    have hH25 : Has E w26 [s19, [Hp.one mb (.map es21 c22)], [Hp.one db (.cells #[(.pointer (some ⟨pb, 0, none⟩)), v, (.map (some mb))] 137 (0, 0))], [Hp.one pb (.cells #[(.bool (useS p).off), (.bool (useS p).armed), (.int .i64 (useS p).left), (.int .i64 (useS p).uses)] 101 (0, 0))], s14, R] := hX24.of_all4
    refine s_nil ?_
    refine t_norm (hK12 _ _ ?_)
    refine wp_seq_k fun K27 hK27 => ?_
    refine c_region ?_
    refine s_op (o_assign (v := (.int .i64 0)) rfl ?_)
    refine s_nil ?_
    refine t_norm (hK27 _ _ ?_)
    refine wp_ret ?_
    refine c_ret1 Try.results31  (v := (.int .i64 0)) rfl ?_
    have hH28 : Has E w26 [s19, [Hp.one mb (.map es21 c22)], [Hp.one db (.cells #[(.pointer (some ⟨pb, 0, none⟩)), v, (.map (some mb))] 137 (0, 0))], [Hp.one pb (.cells #[(.bool (useS p).off), (.bool (useS p).armed), (.int .i64 (useS p).left), (.int .i64 (useS p).uses)] 101 (0, 0))], R] := (((((hH25.front 5 rfl).front 4 rfl).front 4 rfl).front 4 rfl).front 4 rfl).first 5 rfl
    exact ⟨_, _, _, by rw [syncE, if_pos h9_n], by rw [syncA, if_pos h9_n]; exact ho20, by rw [syncO, if_pos h9_n]; exact hm23, hH28⟩
set_option maxHeartbeats 4000000 in
theorem crash_i {E w : World} {R hL : List Hp} {pb db mb c : Nat} {p : Pw} {v : Value} {es : Array MapEntry} {la : List Bs} {lo : List (Int × Bs)} (hH : Has E w [hL, [Hp.one mb (.map es c)], [Hp.one db (.cells #[(.pointer (some ⟨pb, 0, none⟩)), v, (.map (some mb))] 137 (0, 0))], [Hp.one pb (.cells #[(.bool p.off), (.bool p.armed), (.int .i64 p.left), (.int .i64 p.uses)] 101 (0, 0))], R]) (ho : Own 9 1 v la.length (la.map sV) hL) (hm : MapV iV sV es c lo) (hlo : LoOk lo la.length) {vk : Value} {keep : List Int} (hk_ : Ints R vk keep) :
    Calls Try.prog 32 #[(.pointer (some ⟨db, 0, none⟩)), vk] w fun e w' => ∃ hL' es' c', e = .returned (.tuple #[]) ∧ Own 9 1 v (settleS lo la keep).length ((settleS lo la keep).map sV) hL' ∧ MapV iV sV es' c' ([] : List (Int × Bs)) ∧ Has E w' [hL', [Hp.one mb (.map es' c')], [Hp.one db (.cells #[(.pointer (some ⟨pb, 0, none⟩)), v, (.map (some mb))] 137 (0, 0))], [Hp.one pb (.cells #[(.bool (backS p).off), (.bool (backS p).armed), (.int .i64 (backS p).left), (.int .i64 (backS p).uses)] 101 (0, 0))], R] := by
  refine c_enter (args := [(.pointer (some ⟨db, 0, none⟩)), vk]) Try.func32 rfl Try.ntmps32 (by simp) ?_
  refine wp_seq_k fun K1 hK1 => ?_
  refine c_region ?_
  refine s_op (o_move (v := (.pointer (some ⟨db, 0, none⟩))) rfl ?_)
  refine s_op (o_pnnil (p := some _) Try.underlying46 rfl rfl ?_)
  refine s_nil ?_
  refine t_norm (hK1 _ _ ?_)
  refine c_true rfl rfl ?_
  refine wp_seq_k fun K2 hK2 => ?_
  refine c_region ?_
  refine s_op (o_move (v := (.pointer (some ⟨db, 0, none⟩))) rfl ?_)
  refine s_op (o_nilCheck rfl ?_)
  refine s_op (o_fieldAddr (k := 0) (fun _ => by kernel_rfl) rfl ?_)
  refine s_op (o_load1 (v := (.pointer (some ⟨pb, 0, none⟩))) Try.underlying99 rfl rfl hH (seg_sub 2 rfl) (CellsAt.one rfl) ?_)
  refine s_op (o_callf (vs := #[(.pointer (some ⟨pb, 0, none⟩))]) ca87 rfl (args1 rfl) (pback_c (p := p) (hH.front 3 rfl).all1) ?_)
  rintro _ w5 ⟨rfl, hX3⟩
  refine ⟨_, rfl, ?_⟩
  have hH4 : Has E w5 [[Hp.one pb (.cells #[(.bool (backS p).off), (.bool (backS p).armed), (.int .i64 (backS p).left), (.int .i64 (backS p).uses)] 101 (0, 0))], hL, [Hp.one mb (.map es c)], [Hp.one db (.cells #[(.pointer (some ⟨pb, 0, none⟩)), v, (.map (some mb))] 137 (0, 0))], R] := hX3.of_all1
  refine s_nil ?_
  refine t_norm (hK2 _ _ ?_)
  refine c_region ?_
  refine s_op (o_move (v := (.pointer (some ⟨db, 0, none⟩))) rfl ?_)
  refine s_op (o_move (v := vk) rfl ?_)
  refine s_op (o_callf (vs := #[(.pointer (some ⟨db, 0, none⟩)), vk]) ca86 rfl (args2 rfl rfl) (settle_i (p := (backS p)) (la := la) (lo := lo) (((hH4.front 3 rfl).front 3 rfl).front 3 rfl).all4 ho hm hlo (keep := keep) (hk_.mono (seg_sub 0 rfl))) ?_)
  rintro _ w13 ⟨s6, es8, c9, rfl, ho7, hm10, hX11⟩
  refine ⟨_, rfl, ?_⟩
  have hH12 : Has E w13 [s6, [Hp.one mb (.map es8 c9)], [Hp.one db (.cells #[(.pointer (some ⟨pb, 0, none⟩)), v, (.map (some mb))] 137 (0, 0))], [Hp.one pb (.cells #[(.bool (backS p).off), (.bool (backS p).armed), (.int .i64 (backS p).left), (.int .i64 (backS p).uses)] 101 (0, 0))], R] := hX11.of_all4
  refine s_nil ?_
  refine c_end0 Try.results32  ?_
  exact ⟨_, _, _, rfl, ho7, hm10, hH12⟩
set_option maxHeartbeats 4000000 in
theorem read_i {E w : World} {R hL : List Hp} {pb db mb c : Nat} {p : Pw} {v : Value} {es : Array MapEntry} {la : List Bs} {lo : List (Int × Bs)} (hH : Has E w [hL, [Hp.one mb (.map es c)], [Hp.one db (.cells #[(.pointer (some ⟨pb, 0, none⟩)), v, (.map (some mb))] 137 (0, 0))], [Hp.one pb (.cells #[(.bool p.off), (.bool p.armed), (.int .i64 p.left), (.int .i64 p.uses)] 101 (0, 0))], R]) (ho : Own 9 1 v la.length (la.map sV) hL) (hm : MapV iV sV es c lo) (n : Int) :
    Calls Try.prog 33 #[(.pointer (some ⟨db, 0, none⟩)), (.int .i64 n)] w fun e w' => e = .returned (.tuple #[S (readS p la lo n), .int .i64 (readE p la n)]) ∧ Has E w' [hL, [Hp.one mb (.map es c)], [Hp.one db (.cells #[(.pointer (some ⟨pb, 0, none⟩)), v, (.map (some mb))] 137 (0, 0))], [Hp.one pb (.cells #[(.bool p.off), (.bool p.armed), (.int .i64 p.left), (.int .i64 p.uses)] 101 (0, 0))], R] := by
  refine c_enter (args := [(.pointer (some ⟨db, 0, none⟩)), (.int .i64 n)]) Try.func33 rfl Try.ntmps33 (by simp) ?_
  refine wp_seq_k fun K1 hK1 => ?_
  refine c_region ?_
  refine s_op (o_assign (v := (S ([] : List UInt8))) rfl ?_)
  refine s_op (o_assign (v := (.int .i64 0)) rfl ?_)
  refine s_nil ?_
  refine t_norm (hK1 _ _ ?_)
  refine wp_seq_k fun K2 hK2 => ?_
  refine wp_block ?_
  refine wp_seq_k fun K3 hK3 => ?_
  refine c_region ?_
  refine s_op (o_move (v := (.pointer (some ⟨db, 0, none⟩))) rfl ?_)
  refine s_op (o_pnil (p := some _) Try.underlying46 rfl rfl ?_)
  refine s_op (o_assign (v := (.bool false)) rfl ?_)
  refine s_nil ?_
  refine t_norm (hK3 _ _ ?_)
  refine c_false rfl rfl ?_
  refine wp_seq_k fun K4 hK4 => ?_
  refine c_region ?_
  refine s_op (o_move (v := (.pointer (some ⟨db, 0, none⟩))) rfl ?_)
  refine s_op (o_callf (vs := #[(.pointer (some ⟨db, 0, none⟩))]) ca62 rfl (args1 rfl) (don_i (p := p) (la := la) (lo := lo) ((((hH.front 3 rfl).front 3 rfl).front 3 rfl).front 3 rfl).all4 ho hm ) ?_)
  rintro _ w7 ⟨rfl, hX5⟩
  refine ⟨_, rfl, ?_⟩
  have hH6 : Has E w7 [hL, [Hp.one mb (.map es c)], [Hp.one db (.cells #[(.pointer (some ⟨pb, 0, none⟩)), v, (.map (some mb))] 137 (0, 0))], [Hp.one pb (.cells #[(.bool p.off), (.bool p.armed), (.int .i64 p.left), (.int .i64 p.uses)] 101 (0, 0))], R] := hX5.of_all4
  refine s_op (o_not rfl ?_)
  refine s_op (o_assign (v := (.bool (!(!p.off)))) rfl ?_)
  refine s_nil ?_
  refine t_norm (hK4 _ _ ?_)
  refine c_condb rfl (fun h8 => ?_) (fun h8 => ?_)
  · -- !(!p.off)
    have h8_n : (!p.off) = false := by simpa using h8
    have h8_n_n : p.off = true := by simpa using h8_n
    refine wp_seq_k fun K9 hK9 => ?_
    refine c_region ?_
    refine s_op (o_assign (v := (S ([] : List UInt8))) rfl ?_)
    refine s_op (o_assign (v := (.int .i64 6)) rfl ?_)
    refine s_nil ?_
    refine t_norm (hK9 _ _ ?_)
    refine wp_ret ?_
    refine b_ret (t_ret (c_ret2 Try.results33  (v := (S ([] : List UInt8))) rfl (x := (.int .i64 6)) rfl ?_))
    have e1_ : readS p la lo n = ([] : List UInt8) := by rw [readS, if_pos h8_n_n]
    have e2_ : readE p la n = 6 := by rw [readE, if_pos h8_n_n]
    exact ⟨by rw [e1_, e2_], hH6⟩
  · -- not: !(!p.off)
    have h8_n : (!p.off) = true := by simpa using h8
    have h8_n_n : p.off = false := by simpa using h8_n
    refine wp_seq_k fun K10 hK10 => ?_
    refine c_region ?_
    refine s_op (o_move (v := (.pointer (some ⟨db, 0, none⟩))) rfl ?_)
    refine s_op (o_move (v := (.int .i64 n)) rfl ?_)
    refine s_op (o_callf (vs := #[(.pointer (some ⟨db, 0, none⟩)), (.int .i64 n)]) ca85 rfl (args2 rfl rfl) (has_i (p := p) (la := la) (lo := lo) ((((hH6.front 3 rfl).front 3 rfl).front 3 rfl).front 3 rfl).all4 ho hm n) ?_)
    rintro _ w13 ⟨rfl, hX11⟩
    refine ⟨_, rfl, ?_⟩
    have hH12 : Has E w13 [hL, [Hp.one mb (.map es c)], [Hp.one db (.cells #[(.pointer (some ⟨pb, 0, none⟩)), v, (.map (some mb))] 137 (0, 0))], [Hp.one pb (.cells #[(.bool p.off), (.bool p.armed), (.int .i64 p.left), (.int .i64 p.uses)] 101 (0, 0))], R] := hX11.of_all4
    refine s_op (o_not2 (b := decide (inS n la.length)) (b' := decide (¬ (inS n la.length))) rfl not_dec ?_)
    refine s_op (o_assign (v := (.bool (decide (¬ (inS n la.length))))) rfl ?_)
    refine s_nil ?_
    refine t_norm (hK10 _ _ ?_)
    refine c_cond rfl (fun h14 => ?_) (fun h14 => ?_)
    · -- ¬ (inS n la.length)
      refine wp_seq_k fun K15 hK15 => ?_
      refine c_region ?_
      refine s_op (o_assign (v := (S ([] : List UInt8))) rfl ?_)
      refine s_op (o_assign (v := (.int .i64 1)) rfl ?_)
      refine s_nil ?_
      refine t_norm (hK15 _ _ ?_)
      refine wp_ret ?_
      refine b_ret (t_ret (c_ret2 Try.results33  (v := (S ([] : List UInt8))) rfl (x := (.int .i64 1)) rfl ?_))
      have e1_ : readS p la lo n = ([] : List UInt8) := by rw [readS, if_neg (ne_true_of_eq_false h8_n_n), if_neg h14]
      have e2_ : readE p la n = 1 := by rw [readE, if_neg (ne_true_of_eq_false h8_n_n), if_neg h14]
      exact ⟨by rw [e1_, e2_], hH12⟩
    · -- not: ¬ (inS n la.length)
      have hin_ : inS n la.length := Classical.not_not.1 h14
      unfold inS at hin_
      refine wp_skip ?_
      refine b_norm ?_
      refine t_norm (hK2 _ _ ?_)
      refine wp_seq_k fun K16 hK16 => ?_
      refine wp_seq_k fun K17 hK17 => ?_
      refine c_region ?_
      refine s_op (o_move (v := (.pointer (some ⟨db, 0, none⟩))) rfl ?_)
      refine s_op (o_nilCheck rfl ?_)
      refine s_op (o_fieldAddr (k := 2) (fun _ => by kernel_rfl) rfl ?_)
      refine s_op (o_load1 (v := (.map (some mb))) Try.underlying135 rfl rfl hH12 (seg_sub 2 rfl) (CellsAt.one rfl) ?_)
      refine s_op (o_move (v := (.int .i64 n)) rfl ?_)
      refine s_op (o_lookupSk (L := [Hp.one mb (.map es c)]) (k := n) Try.underlying135 (key_int Try.underlying3) ti9 rfl rfl hH12 (seg_sub 1 rfl) rfl hm ?_)
      refine s_op (o_move (v := (.tuple #[(S ((getB lo n).getD [])), (.bool ((getB lo n).isSome))])) rfl ?_)
      refine s_op (o_extract (v := (S ((getB lo n).getD []))) rfl rfl ?_)
      refine s_op (o_extract (v := (.bool ((getB lo n).isSome))) rfl rfl ?_)
      refine s_op (o_assign (v := (S ((getB lo n).getD []))) rfl ?_)
      refine s_op (o_assign (v := (.bool ((getB lo n).isSome))) rfl ?_)
      refine s_nil ?_
      refine t_norm (hK17 _ _ ?_)
      refine wp_seq_k fun K18 hK18 => ?_
      refine c_region ?_
      refine s_op (o_move (v := (.bool ((getB lo n).isSome))) rfl ?_)
      refine s_nil ?_
      refine t_norm (hK18 _ _ ?_)
      refine c_condb rfl (fun h19 => ?_) (fun h19 => ?_)
      · -- (getB lo n).isSome
        refine wp_seq_k fun K20 hK20 => ?_
        refine c_region ?_
        refine s_op (o_move (v := (S ((getB lo n).getD []))) rfl ?_)
        refine s_op (o_assign (v := (S ((getB lo n).getD []))) rfl ?_)
        refine s_op (o_assign (v := (.int .i64 0)) rfl ?_)
        refine s_nil ?_
        refine t_norm (hK20 _ _ ?_)
        refine wp_ret ?_
        refine t_ret (c_ret2 Try.results33  (v := (S ((getB lo n).getD []))) rfl (x := (.int .i64 0)) rfl ?_)
        have e1_ : readS p la lo n = ((getB lo n).getD []) := by rw [readS, if_neg (ne_true_of_eq_false h8_n_n), if_pos (Classical.not_not.1 h14), if_pos h19]
        have e2_ : readE p la n = 0 := by rw [readE, if_neg (ne_true_of_eq_false h8_n_n), if_pos (Classical.not_not.1 h14)]
        exact ⟨by rw [e1_, e2_], hH12⟩
      · -- not: (getB lo n).isSome
        refine wp_skip ?_
        refine t_norm (hK16 _ _ ?_)
        refine wp_seq_k fun K21 hK21 => ?_
        refine c_region ?_
        refine s_op (o_move (v := (.pointer (some ⟨db, 0, none⟩))) rfl ?_)
        refine s_op (o_nilCheck rfl ?_)
        refine s_op (o_fieldAddr (k := 1) (fun _ => by kernel_rfl) rfl ?_)
        refine s_op (o_load1 (v := v) Try.underlying53 rfl rfl hH12 (seg_sub 2 rfl) (CellsAt.one rfl) ?_)
        refine s_op (o_move (v := (.int .i64 n)) rfl ?_)
        obtain ⟨x25, hx26⟩ : ∃ x_, la[(n).toNat]? = some x_ := get_some (by omega)
        refine s_op (o_index1 Try.underlying53 ti9 rfl ho.sl rfl (by omega) hx26 fun b22 o23 hc24 => ?_)
        refine s_op (o_load1 (v := (S x25)) Try.underlying9 rfl rfl hH12 (seg_sub 0 rfl) hc24 ?_)
        refine s_op (o_assign (v := (S x25)) rfl ?_)
        refine s_op (o_assign (v := (.int .i64 0)) rfl ?_)
        refine s_nil ?_
        refine t_norm (hK21 _ _ ?_)
        refine wp_ret ?_
        refine c_ret2 Try.results33  (v := (S x25)) rfl (x := (.int .i64 0)) rfl ?_
        have e1_ : readS p la lo n = x25 := by rw [readS, if_neg (ne_true_of_eq_false h8_n_n), if_pos (Classical.not_not.1 h14), if_neg (ne_true_of_eq_false h19)]; rw [hx26]; rfl
        have e2_ : readE p la n = 0 := by rw [readE, if_neg (ne_true_of_eq_false h8_n_n), if_pos (Classical.not_not.1 h14)]
        exact ⟨by rw [e1_, e2_], hH12⟩
set_option maxHeartbeats 4000000 in
theorem lasts_i {E w : World} {R hL : List Hp} {pb db mb c : Nat} {p : Pw} {v : Value} {es : Array MapEntry} {la : List Bs} {lo : List (Int × Bs)} (hH : Has E w [hL, [Hp.one mb (.map es c)], [Hp.one db (.cells #[(.pointer (some ⟨pb, 0, none⟩)), v, (.map (some mb))] 137 (0, 0))], [Hp.one pb (.cells #[(.bool p.off), (.bool p.armed), (.int .i64 p.left), (.int .i64 p.uses)] 101 (0, 0))], R]) (ho : Own 9 1 v la.length (la.map sV) hL) (hm : MapV iV sV es c lo) (n : Int) :
    Calls Try.prog 51 #[(.pointer (some ⟨db, 0, none⟩)), (.int .i64 n)] w fun e w' => e = .returned (S (lastsS la n)) ∧ Has E w' [hL, [Hp.one mb (.map es c)], [Hp.one db (.cells #[(.pointer (some ⟨pb, 0, none⟩)), v, (.map (some mb))] 137 (0, 0))], [Hp.one pb (.cells #[(.bool p.off), (.bool p.armed), (.int .i64 p.left), (.int .i64 p.uses)] 101 (0, 0))], R] := by
  refine c_enter (args := [(.pointer (some ⟨db, 0, none⟩)), (.int .i64 n)]) Try.func51 rfl Try.ntmps51 (by simp) ?_
  refine wp_seq_k fun K1 hK1 => ?_
  refine c_region ?_
  refine s_op (o_assign (v := (S ([] : List UInt8))) rfl ?_)
  refine s_nil ?_
  refine t_norm (hK1 _ _ ?_)
  refine wp_seq_k fun K2 hK2 => ?_
  refine wp_seq_k fun K3 hK3 => ?_
  refine c_region ?_
  refine s_op (o_move (v := (.pointer (some ⟨db, 0, none⟩))) rfl ?_)
  refine s_op (o_move (v := (.int .i64 n)) rfl ?_)
  refine s_op (o_callf (vs := #[(.pointer (some ⟨db, 0, none⟩)), (.int .i64 n)]) ca85 rfl (args2 rfl rfl) (has_i (p := p) (la := la) (lo := lo) ((((hH.front 3 rfl).front 3 rfl).front 3 rfl).front 3 rfl).all4 ho hm n) ?_)
  rintro _ w6 ⟨rfl, hX4⟩
  refine ⟨_, rfl, ?_⟩
  have hH5 : Has E w6 [hL, [Hp.one mb (.map es c)], [Hp.one db (.cells #[(.pointer (some ⟨pb, 0, none⟩)), v, (.map (some mb))] 137 (0, 0))], [Hp.one pb (.cells #[(.bool p.off), (.bool p.armed), (.int .i64 p.left), (.int .i64 p.uses)] 101 (0, 0))], R] := hX4.of_all4
  refine s_op (o_not2 (b := decide (inS n la.length)) (b' := decide (¬ (inS n la.length))) rfl not_dec ?_)
  refine s_nil ?_
  refine t_norm (hK3 _ _ ?_)
  refine c_cond rfl (fun h7 => ?_) (fun h7 => ?_)
  · -- ¬ (inS n la.length)
    refine wp_seq_k fun K8 hK8 => ?_
    refine c_region ?_
    refine s_op (o_assign (v := (S ([] : List UInt8))) rfl ?_)
    refine s_nil ?_
    refine t_norm (hK8 _ _ ?_)
    refine wp_ret ?_
    refine t_ret (c_ret1 Try.results51  (v := (S ([] : List UInt8))) rfl ?_)
    have e1_ : lastsS la n = ([] : List UInt8) := by rw [lastsS, if_neg h7]
    exact ⟨by rw [e1_], hH5⟩
  · -- not: ¬ (inS n la.length)
    have hin_ : inS n la.length := Classical.not_not.1 h7
    unfold inS at hin_
    refine wp_skip ?_
    refine t_norm (hK2 _ _ ?_)
    refine wp_seq_k fun K9 hK9 => ?_
    refine c_region ?_
    refine s_op (o_move (v := (.pointer (some ⟨db, 0, none⟩))) rfl ?_)
    refine s_op (o_nilCheck rfl ?_)
    refine s_op (o_fieldAddr (k := 1) (fun _ => by kernel_rfl) rfl ?_)
    refine s_op (o_load1 (v := v) Try.underlying53 rfl rfl hH5 (seg_sub 2 rfl) (CellsAt.one rfl) ?_)
    refine s_op (o_move (v := (.int .i64 n)) rfl ?_)
    obtain ⟨x13, hx14⟩ : ∃ x_, la[(n).toNat]? = some x_ := get_some (by omega)
    refine s_op (o_index1 Try.underlying53 ti9 rfl ho.sl rfl (by omega) hx14 fun b10 o11 hc12 => ?_)
    refine s_op (o_load1 (v := (S x13)) Try.underlying9 rfl rfl hH5 (seg_sub 0 rfl) hc12 ?_)
    refine s_op (o_assign (v := (S x13)) rfl ?_)
    refine s_nil ?_
    refine t_norm (hK9 _ _ ?_)
    refine wp_ret ?_
    refine c_ret1 Try.results51  (v := (S x13)) rfl ?_
    have e1_ : lastsS la n = x13 := by rw [lastsS, if_pos (Classical.not_not.1 h7)]; rw [hx14]; rfl
    exact ⟨by rw [e1_], hH5⟩
set_option maxHeartbeats 4000000 in
theorem put_i {E w : World} {R hL : List Hp} {pb db mb c : Nat} {p : Pw} {v : Value} {es : Array MapEntry} {la : List Bs} {lo : List (Int × Bs)} (hH : Has E w [hL, [Hp.one mb (.map es c)], [Hp.one db (.cells #[(.pointer (some ⟨pb, 0, none⟩)), v, (.map (some mb))] 137 (0, 0))], [Hp.one pb (.cells #[(.bool p.off), (.bool p.armed), (.int .i64 p.left), (.int .i64 p.uses)] 101 (0, 0))], R]) (ho : Own 9 1 v la.length (la.map sV) hL) (hm : MapV iV sV es c lo) (n : Int) (s : Bs) (hs : s.length ≤ 1000000000) :
    Calls Try.prog 52 #[(.pointer (some ⟨db, 0, none⟩)), (.int .i64 n), (S s)] w fun e w' => ∃ hL' es' c', e = .returned (.int .i64 (putE la.length n s)) ∧ Own 9 1 v (putA la n s).length ((putA la n s).map sV) hL' ∧ MapV iV sV es' c' (putO la.length lo n s) ∧ Has E w' [hL', [Hp.one mb (.map es' c')], [Hp.one db (.cells #[(.pointer (some ⟨pb, 0, none⟩)), v, (.map (some mb))] 137 (0, 0))], [Hp.one pb (.cells #[(.bool p.off), (.bool p.armed), (.int .i64 p.left), (.int .i64 p.uses)] 101 (0, 0))], R] := by
  refine c_enter (args := [(.pointer (some ⟨db, 0, none⟩)), (.int .i64 n), (S s)]) Try.func52 rfl Try.ntmps52 (by simp) ?_
  refine wp_seq_k fun K1 hK1 => ?_
  refine c_region ?_
  refine s_op (o_assign (v := (.int .i64 0)) rfl ?_)
  refine s_nil ?_
  refine t_norm (hK1 _ _ ?_)
  refine wp_seq_k fun K2 hK2 => ?_
  refine c_region ?_
  refine s_op (o_move (v := (S s)) rfl ?_)
  refine s_op (o_buildSlice (ps := #[(0, (S s))]) (cells := #[(S s)]) Try.underlying53 ti9 (by decide) (parts1 rfl) (by kernel_rfl) hH fun b3 w4 hH5 => ?_)
  have hfl6 : ([s] : List Bs).flatten = s := by simp
  refine s_op (o_callf (vs := #[(.slice (some ⟨b3, 0, none⟩) 1 1)]) ca84 rfl (args1 rfl) ((by have h_ := filled_c hH5.all (l := [s]) ((sl_lit (f := sV) (l := [s]) rfl rfl (by simp)).mono (seg_sub 0 rfl)) (by simp) (by simp; omega); rwa [hfl6] at h_)) ?_)
  rintro _ w9 ⟨rfl, hX7⟩
  refine ⟨_, rfl, ?_⟩
  have hH8 := hX7.of_all
  refine s_op (o_move (v := (.tuple #[(S (if s.length ≤ 64 then fillS s else [])), (.bool (decide (s.length ≤ 64)))])) rfl ?_)
  refine s_op (o_extract (v := (S (if s.length ≤ 64 then fillS s else []))) rfl rfl ?_)
  refine s_op (o_extract (v := (.bool (decide (s.length ≤ 64)))) rfl rfl ?_)
  refine s_op (o_assign (v := (S (if s.length ≤ 64 then fillS s else []))) rfl ?_)
  refine s_op (o_assign (v := (.bool (decide (s.length ≤ 64)))) rfl ?_)
  refine s_nil ?_
  refine t_norm (hK2 _ _ ?_)
  refine wp_seq_k fun K10 hK10 => ?_
  refine wp_seq_k fun K11 hK11 => ?_
  refine c_region ?_
  refine s_op (o_move (v := (.bool (decide (s.length ≤ 64)))) rfl ?_)
  refine s_op (o_not2 (b := decide (s.length ≤ 64)) (b' := decide (¬ (s.length ≤ 64))) rfl not_dec ?_)
  refine s_op (o_move (v := (.bool (decide (¬ (s.length ≤ 64))))) rfl ?_)
  by_cases h12 : ¬ (s.length ≤ 64)
  · -- ¬ (s.length ≤ 64)
    refine s_off (b' := true) 17 rfl (congrArg Value.bool (decide_eq_true h12)) rfl ?_
    refine s_off (b' := true) 17 rfl (congrArg Value.bool (decide_eq_true h12)) rfl ?_
    refine s_off (b' := true) 17 rfl (congrArg Value.bool (decide_eq_true h12)) rfl ?_
    refine s_off (b' := true) 17 rfl (congrArg Value.bool (decide_eq_true h12)) rfl ?_
    refine s_op (o_pick_t (u := (.bool true)) ((rfl : _ = _).trans (congrArg Value.bool (decide_eq_true h12))) rfl ?_)
    refine s_nil ?_
    refine t_norm (hK11 _ _ ?_)
    refine c_true rfl rfl ?_
    refine wp_seq_k fun K13 hK13 => ?_
    refine c_region ?_
    refine s_op (o_assign (v := (.int .i64 1)) rfl ?_)
    refine s_nil ?_
    refine t_norm (hK13 _ _ ?_)
    refine wp_ret ?_
    refine t_ret (c_ret1 Try.results52  (v := (.int .i64 1)) rfl ?_)
    have hH14 : Has E w9 [hL, [Hp.one mb (.map es c)], [Hp.one db (.cells #[(.pointer (some ⟨pb, 0, none⟩)), v, (.map (some mb))] 137 (0, 0))], [Hp.one pb (.cells #[(.bool p.off), (.bool p.armed), (.int .i64 p.left), (.int .i64 p.uses)] 101 (0, 0))], R] := (((((hH8.front 5 rfl).front 5 rfl).front 5 rfl).front 5 rfl).front 5 rfl).first 5 rfl
    exact ⟨_, _, _, by rw [putE, if_neg (fun g => h12 g.1)], by rw [putA, if_neg (fun g => h12 g.1)]; exact ho, by rw [putO, if_neg (fun g => h12 g.1)]; exact hm, hH14⟩
  · -- not: ¬ (s.length ≤ 64)
    refine s_on 17 rfl (congrArg Value.bool (decide_eq_false h12)) (o_move (v := (.pointer (some ⟨db, 0, none⟩))) rfl ?_)
    refine s_on 17 rfl (congrArg Value.bool (decide_eq_false h12)) (o_move (v := (.int .i64 n)) rfl ?_)
    refine s_on 17 rfl (congrArg Value.bool (decide_eq_false h12)) (o_callf (vs := #[(.pointer (some ⟨db, 0, none⟩)), (.int .i64 n)]) ca85 rfl (args2 rfl rfl) (has_i (p := p) (la := la) (lo := lo) ((((hH8.front 4 rfl).front 4 rfl).front 4 rfl).front 4 rfl).all4 ho hm n) ?_)
    rintro _ w17 ⟨rfl, hX15⟩
    refine ⟨_, rfl, ?_⟩
    have hH16 : Has E w17 [hL, [Hp.one mb (.map es c)], [Hp.one db (.cells #[(.pointer (some ⟨pb, 0, none⟩)), v, (.map (some mb))] 137 (0, 0))], [Hp.one pb (.cells #[(.bool p.off), (.bool p.armed), (.int .i64 p.left), (.int .i64 p.uses)] 101 (0, 0))], [Hp.one b3 (.cells #[(S s)] 9 (0, 0))], R] := hX15.of_all4
    refine s_on 17 rfl (congrArg Value.bool (decide_eq_false h12)) (o_not2 (b := decide (inS n la.length)) (b' := decide (¬ (inS n la.length))) rfl not_dec ?_)
    refine s_op (o_pick_f (u := (.bool (decide (¬ (inS n la.length))))) ((rfl : _ = _).trans (congrArg Value.bool (decide_eq_false h12))) rfl ?_)
    refine s_nil ?_
    refine t_norm (hK11 _ _ ?_)
    refine c_cond rfl (fun h18 => ?_) (fun h18 => ?_)
    · -- ¬ (inS n la.length)
      refine wp_seq_k fun K19 hK19 => ?_
      refine c_region ?_
      refine s_op (o_assign (v := (.int .i64 1)) rfl ?_)
      refine s_nil ?_
      refine t_norm (hK19 _ _ ?_)
      refine wp_ret ?_
      refine t_ret (c_ret1 Try.results52  (v := (.int .i64 1)) rfl ?_)
      have hH20 : Has E w17 [hL, [Hp.one mb (.map es c)], [Hp.one db (.cells #[(.pointer (some ⟨pb, 0, none⟩)), v, (.map (some mb))] 137 (0, 0))], [Hp.one pb (.cells #[(.bool p.off), (.bool p.armed), (.int .i64 p.left), (.int .i64 p.uses)] 101 (0, 0))], R] := (((((hH16.front 5 rfl).front 4 rfl).front 4 rfl).front 4 rfl).front 4 rfl).first 5 rfl
      exact ⟨_, _, _, by rw [putE, if_neg (fun g => h18 g.2)], by rw [putA, if_neg (fun g => h18 g.2)]; exact ho, by rw [putO, if_neg (fun g => h18 g.2)]; exact hm, hH20⟩
    · -- not: ¬ (inS n la.length)
      have hin_ : inS n la.length := Classical.not_not.1 h18
      unfold inS at hin_
      refine wp_skip ?_
      refine t_norm (hK10 _ _ ?_)
      refine wp_seq_k fun K21 hK21 => ?_
      refine c_region ?_
      refine s_op (o_move (v := (.pointer (some ⟨db, 0, none⟩))) rfl ?_)
      refine s_op (o_nilCheck rfl ?_)
      refine s_op (o_fieldAddr (k := 1) (fun _ => by kernel_rfl) rfl ?_)
      refine s_op (o_load1 (v := v) Try.underlying53 rfl rfl hH16 (seg_sub 2 rfl) (CellsAt.one rfl) ?_)
      refine s_op (o_move (v := (.int .i64 n)) rfl ?_)
      refine s_op (o_move (v := (S (if s.length ≤ 64 then fillS s else []))) rfl ?_)
      refine s_op (o_ownAddr Try.underlying53 ti9 rfl ho rfl (by omega) (by first | omega | (simp only [List.length_append, List.length_cons, List.length_nil, List.length_set]; omega)) fun b22 ho23 => ?_)
      refine s_eff (o_ownStore (f := sV) (l := la) (a := (if s.length ≤ 64 then fillS s else [])) ti9 rfl rfl rfl ho23 (by first | omega | (simp only [List.length_append, List.length_cons, List.length_nil, List.length_set]; omega)) hH16 fun s24 w25 ho26 hH27 => ?_)
      refine s_nil ?_
      refine t_norm (hK21 _ _ ?_)
      refine wp_seq_k fun K28 hK28 => ?_
      refine c_region ?_
      refine s_op (o_move (v := (.pointer (some ⟨db, 0, none⟩))) rfl ?_)
      refine s_op (o_nilCheck rfl ?_)
      refine s_op (o_fieldAddr (k := 2) (fun _ => by kernel_rfl) rfl ?_)
      refine s_op (o_load1 (v := (.map (some mb))) Try.underlying135 rfl rfl hH27 (seg_sub 2 rfl) (CellsAt.one rfl) ?_)
      refine s_op (o_move (v := (.int .i64 n)) rfl ?_)
      refine s_eff (o_delete (gk := iV) (f := sV) (k := n) Try.underlying135 (key_int Try.underlying3) rfl rfl (hH27.front 1 rfl) hm fun es29 c30 w31 he32 hH33 => ?_)
      refine s_nil ?_
      refine t_norm (hK28 _ _ ?_)
      refine wp_seq_k fun K34 hK34 => ?_
      refine c_region ?_
      refine s_op (o_assign (v := (.int .i64 0)) rfl ?_)
      refine s_nil ?_
      refine t_norm (hK34 _ _ ?_)
      refine wp_ret ?_
      refine c_ret1 Try.results52  (v := (.int .i64 0)) rfl ?_
      have hH35 : Has E w31 [s24, [Hp.one mb (.map es29 c30)], [Hp.one db (.cells #[(.pointer (some ⟨pb, 0, none⟩)), v, (.map (some mb))] 137 (0, 0))], [Hp.one pb (.cells #[(.bool p.off), (.bool p.armed), (.int .i64 p.left), (.int .i64 p.uses)] 101 (0, 0))], R] := (((((hH33.front 5 rfl).front 4 rfl).front 4 rfl).front 3 rfl).front 4 rfl).first 5 rfl
      exact ⟨_, _, _, by rw [putE, if_pos ⟨(Classical.not_not.1 h12), (Classical.not_not.1 h18)⟩], by rw [putA, if_pos ⟨(Classical.not_not.1 h12), (Classical.not_not.1 h18)⟩]; rw [if_pos (Classical.not_not.1 h12)] at ho26; exact ho26, by rw [putO, if_pos ⟨(Classical.not_not.1 h12), (Classical.not_not.1 h18)⟩]; exact he32, hH35⟩
end Go.Q
