/-
  Parts of a walk: what functions of the program compute, each told by a theorem.
-/
import Derived.Test.YtcffibbdbalmjaaQE3
import Derived.Test.YtcffibbdbalmjaaQESh2
set_option linter.unusedVariables false
set_option linter.unusedSimpArgs false
namespace Go.Q
open Go.Proofs
set_option linter.unusedVariables false
set_option maxRecDepth 100000
attribute [local irreducible] wpList OK Code.wp
theorem wf_of {n : Int} {k : Nat} (h : inS n k) (hk : k ≤ 4096) : (Lit.int .i64 n).wf = true := by
  unfold inS at h
  simp only [Lit.wf, IntKind.min, IntKind.max, IntKind.signed, IntKind.bits, Bool.and_eq_true, decide_eq_true_eq, if_true]
  omega
theorem lo_le {es : Array MapEntry} {c : Nat} {lo : List (Int × Bs)} {k : Nat} (hm : MapV iV sV es c lo) (h : LoOk lo k) (hk : k ≤ 4096) : lo.length ≤ 1000000 := by
  have := nodup_len (lo.map (·.1)) ((List.range k).map Int.ofNat) hm.nodup fun x hx => by
    obtain ⟨p, hp, rfl⟩ := List.mem_map.1 hx
    have := (h p hp).1
    unfold inS at this
    exact List.mem_map.2 ⟨p.1.toNat, List.mem_range.2 (by omega), by show ((p.1.toNat : Nat) : Int) = _; omega⟩
  rw [List.length_map, List.length_map, List.length_range] at this; omega
set_option maxHeartbeats 4000000 in
theorem sectors_i {E w : World} {R hL : List Hp} {pb db mb c : Nat} {p : Pw} {v : Value} {es : Array MapEntry} {la : List Bs} {lo : List (Int × Bs)} (hH : Has E w [hL, [Hp.one mb (.map es c)], [Hp.one db (.cells #[(.pointer (some ⟨pb, 0, none⟩)), v, (.map (some mb))] 137 (0, 0))], [Hp.one pb (.cells #[(.bool p.off), (.bool p.armed), (.int .i64 p.left), (.int .i64 p.uses)] 101 (0, 0))], R]) (ho : Own 9 1 v la.length (la.map sV) hL) (hm : MapV iV sV es c lo) :
    Calls Try.prog 61 #[(.pointer (some ⟨db, 0, none⟩))] w fun e w' => e = .returned (.int .i64 ((la.length : Nat) : Int)) ∧ Has E w' [hL, [Hp.one mb (.map es c)], [Hp.one db (.cells #[(.pointer (some ⟨pb, 0, none⟩)), v, (.map (some mb))] 137 (0, 0))], [Hp.one pb (.cells #[(.bool p.off), (.bool p.armed), (.int .i64 p.left), (.int .i64 p.uses)] 101 (0, 0))], R] := by
  refine c_enter (args := [(.pointer (some ⟨db, 0, none⟩))]) Try.func61 rfl Try.ntmps61 (by simp) ?_
  refine wp_seq_k fun K1 hK1 => ?_
  refine c_region ?_
  refine s_op (o_assign (v := (.int .i64 0)) rfl ?_)
  refine s_nil ?_
  refine t_norm (hK1 _ _ ?_)
  refine wp_seq_k fun K2 hK2 => ?_
  refine wp_seq_k fun K3 hK3 => ?_
  refine c_region ?_
  refine s_op (o_move (v := (.pointer (some ⟨db, 0, none⟩))) rfl ?_)
  refine s_op (o_pnil (p := some _) Try.underlying46 rfl rfl ?_)
  refine s_nil ?_
  refine t_norm (hK3 _ _ ?_)
  refine c_false rfl rfl ?_
  refine wp_skip ?_
  refine t_norm (hK2 _ _ ?_)
  refine wp_seq_k fun K4 hK4 => ?_
  refine c_region ?_
  refine s_op (o_move (v := (.pointer (some ⟨db, 0, none⟩))) rfl ?_)
  refine s_op (o_nilCheck rfl ?_)
  refine s_op (o_fieldAddr (k := 1) (fun _ => by kernel_rfl) rfl ?_)
  refine s_op (o_load1 (v := v) Try.underlying53 rfl rfl hH (seg_sub 2 rfl) (CellsAt.one rfl) ?_)
  refine s_op (o_lenS Try.underlying53 rfl ho.sl ?_)
  refine s_op (o_assign (v := (.int .i64 ((la.length : Nat) : Int))) rfl ?_)
  refine s_nil ?_
  refine t_norm (hK4 _ _ ?_)
  refine wp_ret ?_
  refine c_ret1 Try.results61  (v := (.int .i64 ((la.length : Nat) : Int))) rfl ?_
  exact ⟨rfl, hH⟩
set_option maxHeartbeats 4000000 in
theorem don_i {E w : World} {R hL : List Hp} {pb db mb c : Nat} {p : Pw} {v : Value} {es : Array MapEntry} {la : List Bs} {lo : List (Int × Bs)} (hH : Has E w [hL, [Hp.one mb (.map es c)], [Hp.one db (.cells #[(.pointer (some ⟨pb, 0, none⟩)), v, (.map (some mb))] 137 (0, 0))], [Hp.one pb (.cells #[(.bool p.off), (.bool p.armed), (.int .i64 p.left), (.int .i64 p.uses)] 101 (0, 0))], R]) (ho : Own 9 1 v la.length (la.map sV) hL) (hm : MapV iV sV es c lo) :
    Calls Try.prog 62 #[(.pointer (some ⟨db, 0, none⟩))] w fun e w' => e = .returned (.bool (!p.off)) ∧ Has E w' [hL, [Hp.one mb (.map es c)], [Hp.one db (.cells #[(.pointer (some ⟨pb, 0, none⟩)), v, (.map (some mb))] 137 (0, 0))], [Hp.one pb (.cells #[(.bool p.off), (.bool p.armed), (.int .i64 p.left), (.int .i64 p.uses)] 101 (0, 0))], R] := by
  refine c_enter (args := [(.pointer (some ⟨db, 0, none⟩))]) Try.func62 rfl Try.ntmps62 (by simp) ?_
  refine wp_seq_k fun K1 hK1 => ?_
  refine c_region ?_
  refine s_op (o_assign (v := (.bool false)) rfl ?_)
  refine s_nil ?_
  refine t_norm (hK1 _ _ ?_)
  refine wp_seq_k fun K2 hK2 => ?_
  refine c_region ?_
  refine s_op (o_move (v := (.pointer (some ⟨db, 0, none⟩))) rfl ?_)
  refine s_op (o_pnnil (p := some _) Try.underlying46 rfl rfl ?_)
  refine s_op (o_move (v := (.bool true)) rfl ?_)
  refine s_on 5 rfl rfl (o_move (v := (.pointer (some ⟨db, 0, none⟩))) rfl ?_)
  refine s_on 5 rfl rfl (o_nilCheck rfl ?_)
  refine s_on 5 rfl rfl (o_fieldAddr (k := 0) (fun _ => by kernel_rfl) rfl ?_)
  refine s_on 5 rfl rfl (o_load1 (v := (.pointer (some ⟨pb, 0, none⟩))) Try.underlying99 rfl rfl hH (seg_sub 2 rfl) (CellsAt.one rfl) ?_)
  refine s_on 5 rfl rfl (o_callf (vs := #[(.pointer (some ⟨pb, 0, none⟩))]) ca57 rfl (args1 rfl) (pon_c (p := p) (hH.front 3 rfl).all1) ?_)
  rintro _ w5 ⟨rfl, hX3⟩
  refine ⟨_, rfl, ?_⟩
  have hH4 : Has E w5 [[Hp.one pb (.cells #[(.bool p.off), (.bool p.armed), (.int .i64 p.left), (.int .i64 p.uses)] 101 (0, 0))], hL, [Hp.one mb (.map es c)], [Hp.one db (.cells #[(.pointer (some ⟨pb, 0, none⟩)), v, (.map (some mb))] 137 (0, 0))], R] := hX3.of_all1
  refine s_op (o_pick_t (u := (.bool (!p.off))) rfl rfl ?_)
  refine s_op (o_assign (v := (.bool (!p.off))) rfl ?_)
  refine s_nil ?_
  refine t_norm (hK2 _ _ ?_)
  refine wp_ret ?_
  refine c_ret1 Try.results62  (v := (.bool (!p.off))) rfl ?_
  have hH6 : Has E w5 [hL, [Hp.one mb (.map es c)], [Hp.one db (.cells #[(.pointer (some ⟨pb, 0, none⟩)), v, (.map (some mb))] 137 (0, 0))], [Hp.one pb (.cells #[(.bool p.off), (.bool p.armed), (.int .i64 p.left), (.int .i64 p.uses)] 101 (0, 0))], R] := (((((hH4.front 4 rfl).front 1 rfl).front 4 rfl).front 4 rfl).front 4 rfl).first 5 rfl
  exact ⟨rfl, hH6⟩
set_option maxHeartbeats 4000000 in
theorem duses_i {E w : World} {R hL : List Hp} {pb db mb c : Nat} {p : Pw} {v : Value} {es : Array MapEntry} {la : List Bs} {lo : List (Int × Bs)} (hH : Has E w [hL, [Hp.one mb (.map es c)], [Hp.one db (.cells #[(.pointer (some ⟨pb, 0, none⟩)), v, (.map (some mb))] 137 (0, 0))], [Hp.one pb (.cells #[(.bool p.off), (.bool p.armed), (.int .i64 p.left), (.int .i64 p.uses)] 101 (0, 0))], R]) (ho : Own 9 1 v la.length (la.map sV) hL) (hm : MapV iV sV es c lo) :
    Calls Try.prog 63 #[(.pointer (some ⟨db, 0, none⟩))] w fun e w' => e = .returned (.int .i64 p.uses) ∧ Has E w' [hL, [Hp.one mb (.map es c)], [Hp.one db (.cells #[(.pointer (some ⟨pb, 0, none⟩)), v, (.map (some mb))] 137 (0, 0))], [Hp.one pb (.cells #[(.bool p.off), (.bool p.armed), (.int .i64 p.left), (.int .i64 p.uses)] 101 (0, 0))], R] := by
  refine c_enter (args := [(.pointer (some ⟨db, 0, none⟩))]) Try.func63 rfl Try.ntmps63 (by simp) ?_
  refine wp_seq_k fun K1 hK1 => ?_
  refine c_region ?_
  refine s_op (o_assign (v := (.int .i64 0)) rfl ?_)
  refine s_nil ?_
  refine t_norm (hK1 _ _ ?_)
  refine wp_seq_k fun K2 hK2 => ?_
  refine wp_seq_k fun K3 hK3 => ?_
  refine c_region ?_
  refine s_op (o_move (v := (.pointer (some ⟨db, 0, none⟩))) rfl ?_)
  refine s_op (o_pnil (p := some _) Try.underlying46 rfl rfl ?_)
  refine s_nil ?_
  refine t_norm (hK3 _ _ ?_)
  refine c_false rfl rfl ?_
  refine wp_skip ?_
  refine t_norm (hK2 _ _ ?_)
  refine wp_seq_k fun K4 hK4 => ?_
  refine c_region ?_
  refine s_op (o_move (v := (.pointer (some ⟨db, 0, none⟩))) rfl ?_)
  refine s_op (o_nilCheck rfl ?_)
  refine s_op (o_fieldAddr (k := 0) (fun _ => by kernel_rfl) rfl ?_)
  refine s_op (o_load1 (v := (.pointer (some ⟨pb, 0, none⟩))) Try.underlying99 rfl rfl hH (seg_sub 2 rfl) (CellsAt.one rfl) ?_)
  refine s_op (o_callf (vs := #[(.pointer (some ⟨pb, 0, none⟩))]) ca58 rfl (args1 rfl) (puses_c (p := p) (hH.front 3 rfl).all1) ?_)
  rintro _ w7 ⟨rfl, hX5⟩
  refine ⟨_, rfl, ?_⟩
  have hH6 : Has E w7 [[Hp.one pb (.cells #[(.bool p.off), (.bool p.armed), (.int .i64 p.left), (.int .i64 p.uses)] 101 (0, 0))], hL, [Hp.one mb (.map es c)], [Hp.one db (.cells #[(.pointer (some ⟨pb, 0, none⟩)), v, (.map (some mb))] 137 (0, 0))], R] := hX5.of_all1
  refine s_op (o_assign (v := (.int .i64 p.uses)) rfl ?_)
  refine s_nil ?_
  refine t_norm (hK4 _ _ ?_)
  refine wp_ret ?_
  refine c_ret1 Try.results63  (v := (.int .i64 p.uses)) rfl ?_
  have hH8 : Has E w7 [hL, [Hp.one mb (.map es c)], [Hp.one db (.cells #[(.pointer (some ⟨pb, 0, none⟩)), v, (.map (some mb))] 137 (0, 0))], [Hp.one pb (.cells #[(.bool p.off), (.bool p.armed), (.int .i64 p.left), (.int .i64 p.uses)] 101 (0, 0))], R] := (((((hH6.front 4 rfl).front 1 rfl).front 4 rfl).front 4 rfl).front 4 rfl).first 5 rfl
  exact ⟨rfl, hH8⟩
set_option maxHeartbeats 4000000 in
theorem darm_i {E w : World} {R hL : List Hp} {pb db mb c : Nat} {p : Pw} {v : Value} {es : Array MapEntry} {la : List Bs} {lo : List (Int × Bs)} (hH : Has E w [hL, [Hp.one mb (.map es c)], [Hp.one db (.cells #[(.pointer (some ⟨pb, 0, none⟩)), v, (.map (some mb))] 137 (0, 0))], [Hp.one pb (.cells #[(.bool p.off), (.bool p.armed), (.int .i64 p.left), (.int .i64 p.uses)] 101 (0, 0))], R]) (ho : Own 9 1 v la.length (la.map sV) hL) (hm : MapV iV sV es c lo) (n : Int) :
    Calls Try.prog 60 #[(.pointer (some ⟨db, 0, none⟩)), (.int .i64 n)] w fun e w' => e = .returned (.tuple #[]) ∧ Has E w' [hL, [Hp.one mb (.map es c)], [Hp.one db (.cells #[(.pointer (some ⟨pb, 0, none⟩)), v, (.map (some mb))] 137 (0, 0))], [Hp.one pb (.cells #[(.bool (armS p n).off), (.bool (armS p n).armed), (.int .i64 (armS p n).left), (.int .i64 (armS p n).uses)] 101 (0, 0))], R] := by
  refine c_enter (args := [(.pointer (some ⟨db, 0, none⟩)), (.int .i64 n)]) Try.func60 rfl Try.ntmps60 (by simp) ?_
  refine wp_seq_k fun K1 hK1 => ?_
  refine c_region ?_
  refine s_op (o_move (v := (.pointer (some ⟨db, 0, none⟩))) rfl ?_)
  refine s_op (o_pnnil (p := some _) Try.underlying46 rfl rfl ?_)
  refine s_nil ?_
  refine t_norm (hK1 _ _ ?_)
  refine c_true rfl rfl ?_
  refine c_region ?_
  refine s_op (o_move (v := (.pointer (some ⟨db, 0, none⟩))) rfl ?_)
  refine s_op (o_nilCheck rfl ?_)
  refine s_op (o_fieldAddr (k := 0) (fun _ => by kernel_rfl) rfl ?_)
  refine s_op (o_load1 (v := (.pointer (some ⟨pb, 0, none⟩))) Try.underlying99 rfl rfl hH (seg_sub 2 rfl) (CellsAt.one rfl) ?_)
  refine s_op (o_move (v := (.int .i64 n)) rfl ?_)
  refine s_op (o_callf (vs := #[(.pointer (some ⟨pb, 0, none⟩)), (.int .i64 n)]) ca59 rfl (args2 rfl rfl) (parm_c (p := p) (hH.front 3 rfl).all1 n) ?_)
  rintro _ w4 ⟨rfl, hX2⟩
  refine ⟨_, rfl, ?_⟩
  have hH3 : Has E w4 [[Hp.one pb (.cells #[(.bool (armS p n).off), (.bool (armS p n).armed), (.int .i64 (armS p n).left), (.int .i64 (armS p n).uses)] 101 (0, 0))], hL, [Hp.one mb (.map es c)], [Hp.one db (.cells #[(.pointer (some ⟨pb, 0, none⟩)), v, (.map (some mb))] 137 (0, 0))], R] := hX2.of_all1
  refine s_nil ?_
  refine c_end0 Try.results60  ?_
  have hH5 : Has E w4 [hL, [Hp.one mb (.map es c)], [Hp.one db (.cells #[(.pointer (some ⟨pb, 0, none⟩)), v, (.map (some mb))] 137 (0, 0))], [Hp.one pb (.cells #[(.bool (armS p n).off), (.bool (armS p n).armed), (.int .i64 (armS p n).left), (.int .i64 (armS p n).uses)] 101 (0, 0))], R] := (((((hH3.front 4 rfl).front 1 rfl).front 4 rfl).front 4 rfl).front 4 rfl).first 5 rfl
  exact ⟨rfl, hH5⟩
set_option maxHeartbeats 4000000 in
theorem has_i {E w : World} {R hL : List Hp} {pb db mb c : Nat} {p : Pw} {v : Value} {es : Array MapEntry} {la : List Bs} {lo : List (Int × Bs)} (hH : Has E w [hL, [Hp.one mb (.map es c)], [Hp.one db (.cells #[(.pointer (some ⟨pb, 0, none⟩)), v, (.map (some mb))] 137 (0, 0))], [Hp.one pb (.cells #[(.bool p.off), (.bool p.armed), (.int .i64 p.left), (.int .i64 p.uses)] 101 (0, 0))], R]) (ho : Own 9 1 v la.length (la.map sV) hL) (hm : MapV iV sV es c lo) (n : Int) :
    Calls Try.prog 85 #[(.pointer (some ⟨db, 0, none⟩)), (.int .i64 n)] w fun e w' => e = .returned (.bool (decide (inS n la.length))) ∧ Has E w' [hL, [Hp.one mb (.map es c)], [Hp.one db (.cells #[(.pointer (some ⟨pb, 0, none⟩)), v, (.map (some mb))] 137 (0, 0))], [Hp.one pb (.cells #[(.bool p.off), (.bool p.armed), (.int .i64 p.left), (.int .i64 p.uses)] 101 (0, 0))], R] := by
  refine c_enter (args := [(.pointer (some ⟨db, 0, none⟩)), (.int .i64 n)]) Try.func85 rfl Try.ntmps85 (by simp) ?_
  refine wp_seq_k fun K1 hK1 => ?_
  refine c_region ?_
  refine s_op (o_assign (v := (.bool false)) rfl ?_)
  refine s_nil ?_
  refine t_norm (hK1 _ _ ?_)
  refine wp_seq_k fun K2 hK2 => ?_
  refine c_region ?_
  refine s_op (o_move (v := (.int .i64 n)) rfl ?_)
  refine s_op (o_geq (a := n) (b := 0) rfl rfl ?_)
  refine s_op (o_move (v := (.bool (decide (0 ≤ n)))) rfl ?_)
  by_cases h3 : 0 ≤ n
  · -- 0 ≤ n
    refine s_on 7 rfl (congrArg Value.bool (decide_eq_true h3)) (o_move (v := (.int .i64 n)) rfl ?_)
    refine s_on 7 rfl (congrArg Value.bool (decide_eq_true h3)) (o_move (v := (.pointer (some ⟨db, 0, none⟩))) rfl ?_)
    refine s_on 7 rfl (congrArg Value.bool (decide_eq_true h3)) (o_callf (vs := #[(.pointer (some ⟨db, 0, none⟩))]) ca61 rfl (args1 rfl) (sectors_i (p := p) (la := la) (lo := lo) ((((hH.front 3 rfl).front 3 rfl).front 3 rfl).front 3 rfl).all4 ho hm ) ?_)
    rintro _ w6 ⟨rfl, hX4⟩
    refine ⟨_, rfl, ?_⟩
    have hH5 : Has E w6 [hL, [Hp.one mb (.map es c)], [Hp.one db (.cells #[(.pointer (some ⟨pb, 0, none⟩)), v, (.map (some mb))] 137 (0, 0))], [Hp.one pb (.cells #[(.bool p.off), (.bool p.armed), (.int .i64 p.left), (.int .i64 p.uses)] 101 (0, 0))], R] := hX4.of_all4
    refine s_on 7 rfl (congrArg Value.bool (decide_eq_true h3)) (o_lss (a := n) (b := ((la.length : Nat) : Int)) rfl rfl ?_)
    refine s_op (o_pick_t (u := (.bool (decide (n < ((la.length : Nat) : Int))))) ((rfl : _ = _).trans (congrArg Value.bool (decide_eq_true h3))) rfl ?_)
    refine s_op (o_assign (v := (.bool (decide (n < ((la.length : Nat) : Int))))) rfl ?_)
    refine s_nil ?_
    refine t_norm (hK2 _ _ ?_)
    refine wp_ret ?_
    refine c_ret1 Try.results85  (v := (.bool (decide (n < ((la.length : Nat) : Int))))) rfl ?_
    exact ⟨congrArg Ending.returned (congrArg Value.bool (decide_eq_decide.2 ⟨fun g => ⟨h3, g⟩, fun g => g.2⟩)), hH5⟩
  · -- not: 0 ≤ n
    refine s_off (b' := false) 7 rfl (congrArg Value.bool (decide_eq_false h3)) rfl ?_
    refine s_off (b' := false) 7 rfl (congrArg Value.bool (decide_eq_false h3)) rfl ?_
    refine s_off (b' := false) 7 rfl (congrArg Value.bool (decide_eq_false h3)) rfl ?_
    refine s_off (b' := false) 7 rfl (congrArg Value.bool (decide_eq_false h3)) rfl ?_
    refine s_op (o_pick_f (u := (.bool false)) ((rfl : _ = _).trans (congrArg Value.bool (decide_eq_false h3))) rfl ?_)
    refine s_op (o_assign (v := (.bool false)) rfl ?_)
    refine s_nil ?_
    refine t_norm (hK2 _ _ ?_)
    refine wp_ret ?_
    refine c_ret1 Try.results85  (v := (.bool false)) rfl ?_
    exact ⟨congrArg Ending.returned (congrArg Value.bool (decide_eq_false (fun g : inS n la.length => h3 g.1)).symm), hH⟩
set_option maxHeartbeats 4000000 in
theorem settle_i {E w : World} {R hL : List Hp} {pb db mb c : Nat} {p : Pw} {v : Value} {es : Array MapEntry} {la : List Bs} {lo : List (Int × Bs)} (hH : Has E w [hL, [Hp.one mb (.map es c)], [Hp.one db (.cells #[(.pointer (some ⟨pb, 0, none⟩)), v, (.map (some mb))] 137 (0, 0))], [Hp.one pb (.cells #[(.bool p.off), (.bool p.armed), (.int .i64 p.left), (.int .i64 p.uses)] 101 (0, 0))], R]) (ho : Own 9 1 v la.length (la.map sV) hL) (hm : MapV iV sV es c lo) (hlo : LoOk lo la.length) {vk : Value} {keep : List Int} (hk_ : Ints R vk keep) :
    Calls Try.prog 86 #[(.pointer (some ⟨db, 0, none⟩)), vk] w fun e w' => ∃ hL' es' c', e = .returned (.tuple #[]) ∧ Own 9 1 v (settleS lo la keep).length ((settleS lo la keep).map sV) hL' ∧ MapV iV sV es' c' ([] : List (Int × Bs)) ∧ Has E w' [hL', [Hp.one mb (.map es' c')], [Hp.one db (.cells #[(.pointer (some ⟨pb, 0, none⟩)), v, (.map (some mb))] 137 (0, 0))], [Hp.one pb (.cells #[(.bool p.off), (.bool p.armed), (.int .i64 p.left), (.int .i64 p.uses)] 101 (0, 0))], R] := by
  have hnk := hk_.le
  refine c_enter (args := [(.pointer (some ⟨db, 0, none⟩)), vk]) Try.func86 rfl Try.ntmps86 (by simp) ?_
  refine wp_seq_k fun K1 hK1 => ?_
  refine wp_seq_k fun K2 hK2 => ?_
  refine c_region ?_
  refine s_op (o_move (v := vk) rfl ?_)
  refine s_op (o_lenS Try.underlying54 rfl hk_ ?_)
  refine s_op (o_move (v := (.int .i64 0)) rfl ?_)
  refine s_nil ?_
  refine t_norm (hK2 _ _ ?_)
  refine wp_block ?_
  let I4 : Nat → (Nat → Value) → World → Prop := fun n__ r__ w__ => ∃ (k : Nat) (h2 : List Hp) (la2 : List Bs), n__ = keep.length - k ∧ Has E w__ [h2, [Hp.one mb (.map es c)], [Hp.one db (.cells #[(.pointer (some ⟨pb, 0, none⟩)), v, (.map (some mb))] 137 (0, 0))], [Hp.one pb (.cells #[(.bool p.off), (.bool p.armed), (.int .i64 p.left), (.int .i64 p.uses)] 101 (0, 0))], R] ∧ (k ≤ keep.length) ∧ (Own 9 1 v la2.length (la2.map sV) h2) ∧ (la2 = settleS lo la (keep.take k)) ∧ r__ 0 = (.pointer (some ⟨db, 0, none⟩)) ∧ r__ 1 = vk ∧ r__ 8 = vk ∧ r__ 9 = (.int .i64 ((keep.length : Nat) : Int)) ∧ r__ 10 = (.int .i64 (k : Int))
  refine c_loop I4 _ ⟨0, hL, la, rfl, hH, Nat.zero_le _, ho, rfl, rfl, rfl, rfl, rfl, rfl⟩ ?_
  rintro n_ r7 w5 ⟨k, h2, la2, rfl, hH6, hk, ho2, hla, e3_0, e3_1, e3_8, e3_9, e3_10⟩
  have hl2 : la2.length = la.length := (by rw [hla, settle_len])
  refine wp_seq_k fun K8 hK8 => ?_
  refine c_region ?_
  refine s_op (o_lss (a := (k : Int)) (b := ((keep.length : Nat) : Int)) e3_10 e3_9 ?_)
  refine s_nil ?_
  refine t_norm (hK8 _ _ ?_)
  refine wp_seq_k fun K9 hK9 => ?_
  refine c_cond rfl (fun h10 => ?_) (fun h10 => ?_)
  · -- (k : Int) < ((keep.length : Nat) : Int)
    refine wp_skip ?_
    refine t_norm (hK9 _ _ ?_)
    refine wp_seq_k fun K11 hK11 => ?_
    refine wp_block ?_
    refine wp_seq_k fun K12 hK12 => ?_
    refine c_region ?_
    obtain ⟨x16, hx17⟩ : ∃ x_, keep[((k : Int)).toNat]? = some x_ := get_some (by omega)
    refine s_op (o_index1 Try.underlying54 ti3 e3_8 hk_ e3_10 (by omega) hx17 fun b13 o14 hc15 => ?_)
    refine s_op (o_load1 (v := (.int .i64 x16)) Try.underlying3 rfl rfl hH6 (seg_sub 4 rfl) hc15 ?_)
    refine s_op (o_assign (v := (.int .i64 x16)) rfl ?_)
    refine s_nil ?_
    refine t_norm (hK12 _ _ ?_)
    refine wp_seq_k fun K18 hK18 => ?_
    refine c_region ?_
    refine s_op (o_move (v := (.pointer (some ⟨db, 0, none⟩))) e3_0 ?_)
    refine s_op (o_nilCheck rfl ?_)
    refine s_op (o_fieldAddr (k := 2) (fun _ => by kernel_rfl) rfl ?_)
    refine s_op (o_load1 (v := (.map (some mb))) Try.underlying135 rfl rfl hH6 (seg_sub 2 rfl) (CellsAt.one rfl) ?_)
    refine s_op (o_move (v := (.int .i64 x16)) rfl ?_)
    refine s_op (o_lookupSk (L := [Hp.one mb (.map es c)]) (k := x16) Try.underlying135 (key_int Try.underlying3) ti9 rfl rfl hH6 (seg_sub 1 rfl) rfl hm ?_)
    refine s_op (o_move (v := (.tuple #[(S ((getB lo x16).getD [])), (.bool ((getB lo x16).isSome))])) rfl ?_)
    refine s_op (o_extract (v := (S ((getB lo x16).getD []))) rfl rfl ?_)
    refine s_op (o_extract (v := (.bool ((getB lo x16).isSome))) rfl rfl ?_)
    refine s_op (o_assign (v := (S ((getB lo x16).getD []))) rfl ?_)
    refine s_op (o_assign (v := (.bool ((getB lo x16).isSome))) rfl ?_)
    refine s_nil ?_
    refine t_norm (hK18 _ _ ?_)
    refine wp_seq_k fun K19 hK19 => ?_
    refine c_region ?_
    refine s_op (o_move (v := (.bool ((getB lo x16).isSome))) rfl ?_)
    refine s_nil ?_
    refine t_norm (hK19 _ _ ?_)
    refine c_condb rfl (fun h20 => ?_) (fun h20 => ?_)
    · -- (getB lo x16).isSome
      have hin_ := hlo.get h20
      unfold inS at hin_
      refine c_region ?_
      refine s_op (o_move (v := (.pointer (some ⟨db, 0, none⟩))) e3_0 ?_)
      refine s_op (o_nilCheck rfl ?_)
      refine s_op (o_fieldAddr (k := 1) (fun _ => by kernel_rfl) rfl ?_)
      refine s_op (o_load1 (v := v) Try.underlying53 rfl rfl hH6 (seg_sub 2 rfl) (CellsAt.one rfl) ?_)
      refine s_op (o_move (v := (.int .i64 x16)) rfl ?_)
      refine s_op (o_move (v := (S ((getB lo x16).getD []))) rfl ?_)
      refine s_op (o_ownAddr Try.underlying53 ti9 rfl ho2 rfl (by omega) (by first | omega | (simp only [List.length_append, List.length_cons, List.length_nil, List.length_set]; omega)) fun b21 ho22 => ?_)
      refine s_eff (o_ownStore (f := sV) (l := la2) (a := ((getB lo x16).getD [])) ti9 rfl rfl rfl ho22 (by first | omega | (simp only [List.length_append, List.length_cons, List.length_nil, List.length_set]; omega)) hH6 fun s23 w24 ho25 hH26 => ?_)
      refine s_nil ?_
      refine b_norm ?_
      refine t_norm (hK11 _ _ ?_)
      refine c_region ?_
      refine s_op (o_add (a := (k : Int)) (b := 1) e3_10 rfl (w64 (by omega) (by omega)) ?_)
      refine s_op (o_move (v := (.int .i64 ((k : Int) + 1))) rfl ?_)
      refine s_nil ?_
      refine t_norm ⟨keep.length - (k + 1), _, rfl, ?_, ?_⟩
      · omega
      · exact ⟨(k + 1), s23, (la2.set ((x16).toNat) ((getB lo x16).getD [])), rfl, hH26, (by omega), (ho25), (by rw [settle_yes (show keep[k]? = some _ from hx17) h20, ← hla]), e3_0, e3_1, e3_8, e3_9, rfl⟩
    · -- not: (getB lo x16).isSome
      refine wp_skip ?_
      refine b_norm ?_
      refine t_norm (hK11 _ _ ?_)
      refine c_region ?_
      refine s_op (o_add (a := (k : Int)) (b := 1) e3_10 rfl (w64 (by omega) (by omega)) ?_)
      refine s_op (o_move (v := (.int .i64 ((k : Int) + 1))) rfl ?_)
      refine s_nil ?_
      refine t_norm ⟨keep.length - (k + 1), _, rfl, ?_, ?_⟩
      · omega
      · exact ⟨(k + 1), h2, la2, rfl, hH6, (by omega), (ho2), (by rw [settle_no (show keep[k]? = some _ from hx17) h20, ← hla]), e3_0, e3_1, e3_8, e3_9, rfl⟩
  · -- not: (k : Int) < ((keep.length : Nat) : Int)
    refine wp_exit ?_
    refine t_exit (t_exit (x_in (?_)))
    refine t_norm (hK1 _ _ ?_)
    refine c_region ?_
    refine s_op (o_move (v := (.pointer (some ⟨db, 0, none⟩))) e3_0 ?_)
    refine s_op (o_nilCheck rfl ?_)
    refine s_op (o_fieldAddr (k := 2) (fun _ => by kernel_rfl) rfl ?_)
    refine s_op (o_load1 (v := (.map (some mb))) Try.underlying135 rfl rfl hH6 (seg_sub 2 rfl) (CellsAt.one rfl) ?_)
    refine s_eff (o_clearMap (gk := iV) (f := sV) Try.underlying135 rfl (hH6.front 1 rfl) hm fun es27 c28 w29 he30 hH31 => ?_)
    refine s_nil ?_
    refine c_end0 Try.results86  ?_
    have hH32 : Has E w29 [h2, [Hp.one mb (.map es27 c28)], [Hp.one db (.cells #[(.pointer (some ⟨pb, 0, none⟩)), v, (.map (some mb))] 137 (0, 0))], [Hp.one pb (.cells #[(.bool p.off), (.bool p.armed), (.int .i64 p.left), (.int .i64 p.uses)] 101 (0, 0))], R] := (((((hH31.front 4 rfl).front 4 rfl).front 4 rfl).front 3 rfl).front 4 rfl).first 5 rfl
    have e_ : k = keep.length := by omega
    rw [e_, List.take_length] at hla
    exact ⟨_, _, _, rfl, by rw [← hla]; exact ho2, he30, hH32⟩
set_option maxHeartbeats 4000000 in
theorem loose_i {E w : World} {R hL : List Hp} {pb db mb c : Nat} {p : Pw} {v : Value} {es : Array MapEntry} {la : List Bs} {lo : List (Int × Bs)} (hH : Has E w [hL, [Hp.one mb (.map es c)], [Hp.one db (.cells #[(.pointer (some ⟨pb, 0, none⟩)), v, (.map (some mb))] 137 (0, 0))], [Hp.one pb (.cells #[(.bool p.off), (.bool p.armed), (.int .i64 p.left), (.int .i64 p.uses)] 101 (0, 0))], R]) (ho : Own 9 1 v la.length (la.map sV) hL) (hm : MapV iV sV es c lo) (hlo : LoOk lo la.length) (hla : la.length ≤ 4096) :
    Calls Try.prog 35 #[(.pointer (some ⟨db, 0, none⟩))] w fun e w' => ∃ v' hs', e = .returned v' ∧ Own 3 1 v' (keysS lo).length ((keysS lo).map iV) hs' ∧ Has E w' [hs', hL, [Hp.one mb (.map es c)], [Hp.one db (.cells #[(.pointer (some ⟨pb, 0, none⟩)), v, (.map (some mb))] 137 (0, 0))], [Hp.one pb (.cells #[(.bool p.off), (.bool p.armed), (.int .i64 p.left), (.int .i64 p.uses)] 101 (0, 0))], R] := by
  refine c_enter (args := [(.pointer (some ⟨db, 0, none⟩))]) Try.func35 rfl Try.ntmps35 (by simp) ?_
  refine wp_seq_k fun K1 hK1 => ?_
  refine c_region ?_
  refine s_op (o_assign (v := (.slice none 0 0)) rfl ?_)
  refine s_nil ?_
  refine t_norm (hK1 _ _ ?_)
  refine wp_seq_k fun K2 hK2 => ?_
  refine wp_seq_k fun K3 hK3 => ?_
  refine c_region ?_
  refine s_op (o_move (v := (.pointer (some ⟨db, 0, none⟩))) rfl ?_)
  refine s_op (o_pnil (p := some _) Try.underlying46 rfl rfl ?_)
  refine s_nil ?_
  refine t_norm (hK3 _ _ ?_)
  refine c_false rfl rfl ?_
  refine wp_skip ?_
  refine t_norm (hK2 _ _ ?_)
  refine wp_seq_k fun K4 hK4 => ?_
  refine c_region ?_
  refine s_op (o_move (v := (.pointer (some ⟨db, 0, none⟩))) rfl ?_)
  refine s_op (o_nilCheck rfl ?_)
  refine s_op (o_fieldAddr (k := 2) (fun _ => by kernel_rfl) rfl ?_)
  refine s_op (o_load1 (v := (.map (some mb))) Try.underlying135 rfl rfl hH (seg_sub 2 rfl) (CellsAt.one rfl) ?_)
  refine s_op (o_callf (vs := #[(.map (some mb))]) ca89 rfl (args1 rfl) (mkeys_c hH.all mb) ?_)
  rintro _ w9 ⟨b5, rfl, hX7⟩
  refine ⟨_, rfl, ?_⟩
  have hH8 : Has E w9 [[Hp.one b5 (.cells #[(.map (some mb))] 135 (0, 0))], hL, [Hp.one mb (.map es c)], [Hp.one db (.cells #[(.pointer (some ⟨pb, 0, none⟩)), v, (.map (some mb))] 137 (0, 0))], [Hp.one pb (.cells #[(.bool p.off), (.bool p.armed), (.int .i64 p.left), (.int .i64 p.uses)] 101 (0, 0))], R] := hX7.of_all1
  refine s_op (o_callf (vs := #[(.func (.func 124) #[] #[.pointer (some ⟨b5, 0, none⟩)])]) ca88 rfl (args1 rfl) (skeys_c ((hH8.front 2 rfl).front 1 rfl).all2 hm (fun q hq => wf_of (hlo q hq).1 (by omega)) (lo_le hm hlo (by omega))) ?_)
  rintro _ w15 ⟨v10, s11, rfl, ho12, hX13⟩
  refine ⟨_, rfl, ?_⟩
  have hH14 : Has E w15 [s11, [Hp.one b5 (.cells #[(.map (some mb))] 135 (0, 0))], [Hp.one mb (.map es c)], hL, [Hp.one db (.cells #[(.pointer (some ⟨pb, 0, none⟩)), v, (.map (some mb))] 137 (0, 0))], [Hp.one pb (.cells #[(.bool p.off), (.bool p.armed), (.int .i64 p.left), (.int .i64 p.uses)] 101 (0, 0))], R] := hX13.of_all3
  refine s_op (o_assign (v := v10) rfl ?_)
  refine s_nil ?_
  refine t_norm (hK4 _ _ ?_)
  refine wp_ret ?_
  refine c_ret1 Try.results35  (v := v10) rfl ?_
  have hH16 : Has E w15 [s11, hL, [Hp.one mb (.map es c)], [Hp.one db (.cells #[(.pointer (some ⟨pb, 0, none⟩)), v, (.map (some mb))] 137 (0, 0))], [Hp.one pb (.cells #[(.bool p.off), (.bool p.armed), (.int .i64 p.left), (.int .i64 p.uses)] 101 (0, 0))], R] := Has.pick hH14 [0, 2, 1, 1, 1, 1] (by kernel_rfl)
  exact ⟨_, _, rfl, ho12, hH16⟩
end Go.Q
