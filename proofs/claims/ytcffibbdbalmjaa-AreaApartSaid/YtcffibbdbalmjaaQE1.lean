/-
  Parts of a walk: what functions of the program compute, each told by a theorem.
-/
import Derived.Test.YtcffibbdbalmjaaQDev
import Derived.Test.YtcffibbdbalmjaaQEBase
import Derived.Test.YtcffibbdbalmjaaQFun
set_option linter.unusedVariables false
set_option linter.unusedSimpArgs false
namespace Go.Q
open Go.Proofs
set_option linter.unusedVariables false
set_option maxRecDepth 100000
attribute [local irreducible] wpList OK Code.wp
set_option maxHeartbeats 4000000 in
theorem use_c {E w : World} {R : List Hp} {pb : Nat} {p : Pw} (hH : Has E w [[Hp.one pb (.cells #[(.bool p.off), (.bool p.armed), (.int .i64 p.left), (.int .i64 p.uses)] 101 (0, 0))], R]) (hp : PwOk p) :
    Calls Try.prog 83 #[(.pointer (some ⟨pb, 0, none⟩))] w fun e w' => e = .returned (.bool (useB p)) ∧ Has E w' [[Hp.one pb (.cells #[(.bool (useS p).off), (.bool (useS p).armed), (.int .i64 (useS p).left), (.int .i64 (useS p).uses)] 101 (0, 0))], R] := by
  obtain ⟨hu1, hu2, hu3, hu4⟩ := hp
  refine c_enter (args := [(.pointer (some ⟨pb, 0, none⟩))]) Try.func83 rfl Try.ntmps83 (by simp) ?_
  refine wp_seq_k fun K1 hK1 => ?_
  refine c_region ?_
  refine s_op (o_assign (v := (.bool false)) rfl ?_)
  refine s_nil ?_
  refine t_norm (hK1 _ _ ?_)
  refine wp_seq_k fun K2 hK2 => ?_
  refine wp_seq_k fun K3 hK3 => ?_
  refine c_region ?_
  refine s_op (o_move (v := (.pointer (some ⟨pb, 0, none⟩))) rfl ?_)
  refine s_op (o_nilCheck rfl ?_)
  refine s_op (o_fieldAddr (k := 0) (fun _ => by kernel_rfl) rfl ?_)
  refine s_op (o_load1 (v := (.bool p.off)) Try.underlying4 rfl rfl hH (seg_sub 0 rfl) (CellsAt.one rfl) ?_)
  refine s_nil ?_
  refine t_norm (hK3 _ _ ?_)
  refine c_condb rfl (fun h4 => ?_) (fun h4 => ?_)
  · -- p.off
    refine wp_seq_k fun K5 hK5 => ?_
    refine c_region ?_
    refine s_op (o_assign (v := (.bool false)) rfl ?_)
    refine s_nil ?_
    refine t_norm (hK5 _ _ ?_)
    refine wp_ret ?_
    refine t_ret (c_ret1 Try.results83  (v := (.bool false)) rfl ?_)
    have e_ : useS p = p := by simp [useS, h4]
    exact ⟨by simp [useB, h4], by rw [e_]; exact hH⟩
  · -- not: p.off
    refine wp_skip ?_
    refine t_norm (hK2 _ _ ?_)
    refine wp_seq_k fun K6 hK6 => ?_
    refine c_region ?_
    refine s_op (o_move (v := (.pointer (some ⟨pb, 0, none⟩))) rfl ?_)
    refine s_op (o_nilCheck rfl ?_)
    refine s_op (o_fieldAddr (k := 3) (fun _ => by kernel_rfl) rfl ?_)
    refine s_op (o_load1 (v := (.int .i64 p.uses)) Try.underlying3 rfl rfl hH (seg_sub 0 rfl) (CellsAt.one rfl) ?_)
    refine s_op (o_add (a := p.uses) (b := 1) rfl rfl (w64 (by omega) (by omega)) ?_)
    refine s_op (o_nilCheck rfl ?_)
    refine s_op (o_fieldAddr (k := 3) (fun _ => by kernel_rfl) rfl ?_)
    refine s_eff (o_store1 (c' := #[(.bool p.off), (.bool p.armed), (.int .i64 p.left), (.int .i64 (p.uses + 1))]) ti3 rfl rfl rfl (by simp) rfl (hH.front 0 rfl) fun w7 hH8 => ?_)
    refine s_nil ?_
    refine t_norm (hK6 _ _ ?_)
    refine wp_seq_k fun K9 hK9 => ?_
    refine c_region ?_
    refine s_op (o_move (v := (.pointer (some ⟨pb, 0, none⟩))) rfl ?_)
    refine s_op (o_move (v := (.pointer (some ⟨pb, 0, none⟩))) rfl ?_)
    refine s_op (o_nilCheck rfl ?_)
    refine s_op (o_fieldAddr (k := 1) (fun _ => by kernel_rfl) rfl ?_)
    refine s_op (o_load1 (v := (.bool p.armed)) Try.underlying4 rfl rfl hH8 (seg_sub 0 rfl) (CellsAt.one rfl) ?_)
    refine s_op (o_move (v := (.bool p.armed)) rfl ?_)
    rcases Bool.eq_false_or_eq_true p.armed with h10 | h10
    · -- p.armed
      refine s_on 19 rfl (congrArg Value.bool h10) (o_move (v := (.pointer (some ⟨pb, 0, none⟩))) rfl ?_)
      refine s_on 19 rfl (congrArg Value.bool h10) (o_nilCheck rfl ?_)
      refine s_on 19 rfl (congrArg Value.bool h10) (o_fieldAddr (k := 2) (fun _ => by kernel_rfl) rfl ?_)
      refine s_on 19 rfl (congrArg Value.bool h10) (o_load1 (v := (.int .i64 p.left)) Try.underlying3 rfl rfl hH8 (seg_sub 0 rfl) (CellsAt.one rfl) ?_)
      refine s_on 19 rfl (congrArg Value.bool h10) (o_eql (a := p.left) (b := 0) rfl rfl ?_)
      refine s_op (o_pick_t (u := (.bool (decide (p.left = 0)))) ((rfl : _ = _).trans (congrArg Value.bool h10)) rfl ?_)
      refine s_op (o_nilCheck rfl ?_)
      refine s_op (o_fieldAddr (k := 0) (fun _ => by kernel_rfl) rfl ?_)
      refine s_eff (o_store1 (c' := #[(.bool (decide (p.left = 0))), (.bool p.armed), (.int .i64 p.left), (.int .i64 (p.uses + 1))]) ti4 rfl rfl rfl (by simp) rfl (hH8.front 0 rfl) fun w11 hH12 => ?_)
      refine s_nil ?_
      refine t_norm (hK9 _ _ ?_)
      refine wp_seq_k fun K13 hK13 => ?_
      refine c_region ?_
      refine s_op (o_move (v := (.pointer (some ⟨pb, 0, none⟩))) rfl ?_)
      refine s_op (o_nilCheck rfl ?_)
      refine s_op (o_fieldAddr (k := 2) (fun _ => by kernel_rfl) rfl ?_)
      refine s_op (o_load1 (v := (.int .i64 p.left)) Try.underlying3 rfl rfl hH12 (seg_sub 0 rfl) (CellsAt.one rfl) ?_)
      refine s_op (o_sub (a := p.left) (b := 1) rfl rfl (w64 (by omega) (by omega)) ?_)
      refine s_op (o_nilCheck rfl ?_)
      refine s_op (o_fieldAddr (k := 2) (fun _ => by kernel_rfl) rfl ?_)
      refine s_eff (o_store1 (c' := #[(.bool (decide (p.left = 0))), (.bool p.armed), (.int .i64 (p.left - 1)), (.int .i64 (p.uses + 1))]) ti3 rfl rfl rfl (by simp) rfl (hH12.front 0 rfl) fun w14 hH15 => ?_)
      refine s_nil ?_
      refine t_norm (hK13 _ _ ?_)
      refine wp_seq_k fun K16 hK16 => ?_
      refine c_region ?_
      refine s_op (o_move (v := (.pointer (some ⟨pb, 0, none⟩))) rfl ?_)
      refine s_op (o_nilCheck rfl ?_)
      refine s_op (o_fieldAddr (k := 0) (fun _ => by kernel_rfl) rfl ?_)
      refine s_op (o_load1 (v := (.bool (decide (p.left = 0)))) Try.underlying4 rfl rfl hH15 (seg_sub 0 rfl) (CellsAt.one rfl) ?_)
      refine s_op (o_not2 (b := decide (p.left = 0)) (b' := decide (¬ (p.left = 0))) rfl not_dec ?_)
      refine s_op (o_assign (v := (.bool (decide (¬ (p.left = 0))))) rfl ?_)
      refine s_nil ?_
      refine t_norm (hK16 _ _ ?_)
      refine wp_ret ?_
      refine c_ret1 Try.results83  (v := (.bool (decide (¬ (p.left = 0))))) rfl ?_
      have e_ : useS p = ⟨decide (p.left = 0), p.armed, p.left - 1, p.uses + 1⟩ := by simp [useS, h4, h10]
      exact ⟨by simp [useB, e_, h4, h10], by rw [e_]; exact hH15⟩
    · -- not: p.armed
      refine s_off (b' := false) 19 rfl (congrArg Value.bool h10) rfl ?_
      refine s_off (b' := false) 19 rfl (congrArg Value.bool h10) rfl ?_
      refine s_off (b' := false) 19 rfl (congrArg Value.bool h10) rfl ?_
      refine s_off (b' := false) 19 rfl (congrArg Value.bool h10) rfl ?_
      refine s_off (b' := false) 19 rfl (congrArg Value.bool h10) rfl ?_
      refine s_op (o_pick_f (u := (.bool false)) ((rfl : _ = _).trans (congrArg Value.bool h10)) rfl ?_)
      refine s_op (o_nilCheck rfl ?_)
      refine s_op (o_fieldAddr (k := 0) (fun _ => by kernel_rfl) rfl ?_)
      refine s_eff (o_store1 (c' := #[(.bool false), (.bool p.armed), (.int .i64 p.left), (.int .i64 (p.uses + 1))]) ti4 rfl rfl rfl (by simp) rfl (hH8.front 0 rfl) fun w17 hH18 => ?_)
      refine s_nil ?_
      refine t_norm (hK9 _ _ ?_)
      refine wp_seq_k fun K19 hK19 => ?_
      refine c_region ?_
      refine s_op (o_move (v := (.pointer (some ⟨pb, 0, none⟩))) rfl ?_)
      refine s_op (o_nilCheck rfl ?_)
      refine s_op (o_fieldAddr (k := 2) (fun _ => by kernel_rfl) rfl ?_)
      refine s_op (o_load1 (v := (.int .i64 p.left)) Try.underlying3 rfl rfl hH18 (seg_sub 0 rfl) (CellsAt.one rfl) ?_)
      refine s_op (o_sub (a := p.left) (b := 1) rfl rfl (w64 (by omega) (by omega)) ?_)
      refine s_op (o_nilCheck rfl ?_)
      refine s_op (o_fieldAddr (k := 2) (fun _ => by kernel_rfl) rfl ?_)
      refine s_eff (o_store1 (c' := #[(.bool false), (.bool p.armed), (.int .i64 (p.left - 1)), (.int .i64 (p.uses + 1))]) ti3 rfl rfl rfl (by simp) rfl (hH18.front 0 rfl) fun w20 hH21 => ?_)
      refine s_nil ?_
      refine t_norm (hK19 _ _ ?_)
      refine wp_seq_k fun K22 hK22 => ?_
      refine c_region ?_
      refine s_op (o_move (v := (.pointer (some ⟨pb, 0, none⟩))) rfl ?_)
      refine s_op (o_nilCheck rfl ?_)
      refine s_op (o_fieldAddr (k := 0) (fun _ => by kernel_rfl) rfl ?_)
      refine s_op (o_load1 (v := (.bool false)) Try.underlying4 rfl rfl hH21 (seg_sub 0 rfl) (CellsAt.one rfl) ?_)
      refine s_op (o_not rfl ?_)
      refine s_op (o_assign (v := (.bool true)) rfl ?_)
      refine s_nil ?_
      refine t_norm (hK22 _ _ ?_)
      refine wp_ret ?_
      refine c_ret1 Try.results83  (v := (.bool true)) rfl ?_
      have e_ : useS p = ⟨false, p.armed, p.left - 1, p.uses + 1⟩ := by simp [useS, h4, h10]
      exact ⟨by simp [useB, e_, h4, h10], by rw [e_]; exact hH21⟩
set_option maxHeartbeats 4000000 in
theorem pback_c {E w : World} {R : List Hp} {pb : Nat} {p : Pw} (hH : Has E w [[Hp.one pb (.cells #[(.bool p.off), (.bool p.armed), (.int .i64 p.left), (.int .i64 p.uses)] 101 (0, 0))], R]) :
    Calls Try.prog 87 #[(.pointer (some ⟨pb, 0, none⟩))] w fun e w' => e = .returned (.tuple #[]) ∧ Has E w' [[Hp.one pb (.cells #[(.bool (backS p).off), (.bool (backS p).armed), (.int .i64 (backS p).left), (.int .i64 (backS p).uses)] 101 (0, 0))], R] := by
  refine c_enter (args := [(.pointer (some ⟨pb, 0, none⟩))]) Try.func87 rfl Try.ntmps87 (by simp) ?_
  refine c_region ?_
  refine s_op (o_move (v := (.pointer (some ⟨pb, 0, none⟩))) rfl ?_)
  refine s_op (o_move (v := (.pointer (some ⟨pb, 0, none⟩))) rfl ?_)
  refine s_op (o_nilCheck rfl ?_)
  refine s_op (o_fieldAddr (k := 0) (fun _ => by kernel_rfl) rfl ?_)
  refine s_eff (o_store1 (c' := #[(.bool false), (.bool p.armed), (.int .i64 p.left), (.int .i64 p.uses)]) ti4 rfl rfl rfl (by simp) rfl (hH.front 0 rfl) fun w1 hH2 => ?_)
  refine s_op (o_nilCheck rfl ?_)
  refine s_op (o_fieldAddr (k := 1) (fun _ => by kernel_rfl) rfl ?_)
  refine s_eff (o_store1 (c' := #[(.bool false), (.bool false), (.int .i64 p.left), (.int .i64 p.uses)]) ti4 rfl rfl rfl (by simp) rfl (hH2.front 0 rfl) fun w3 hH4 => ?_)
  refine s_nil ?_
  refine c_end0 Try.results87  ?_
  exact ⟨rfl, hH4⟩
set_option maxHeartbeats 4000000 in
theorem parm_c {E w : World} {R : List Hp} {pb : Nat} {p : Pw} (hH : Has E w [[Hp.one pb (.cells #[(.bool p.off), (.bool p.armed), (.int .i64 p.left), (.int .i64 p.uses)] 101 (0, 0))], R]) (n : Int) :
    Calls Try.prog 59 #[(.pointer (some ⟨pb, 0, none⟩)), (.int .i64 n)] w fun e w' => e = .returned (.tuple #[]) ∧ Has E w' [[Hp.one pb (.cells #[(.bool (armS p n).off), (.bool (armS p n).armed), (.int .i64 (armS p n).left), (.int .i64 (armS p n).uses)] 101 (0, 0))], R] := by
  refine c_enter (args := [(.pointer (some ⟨pb, 0, none⟩)), (.int .i64 n)]) Try.func59 rfl Try.ntmps59 (by simp) ?_
  refine wp_seq_k fun K1 hK1 => ?_
  refine c_region ?_
  refine s_op (o_move (v := (.pointer (some ⟨pb, 0, none⟩))) rfl ?_)
  refine s_op (o_pnnil (p := some _) Try.underlying99 rfl rfl ?_)
  refine s_nil ?_
  refine t_norm (hK1 _ _ ?_)
  refine c_true rfl rfl ?_
  refine c_region ?_
  refine s_op (o_move (v := (.pointer (some ⟨pb, 0, none⟩))) rfl ?_)
  refine s_op (o_move (v := (.pointer (some ⟨pb, 0, none⟩))) rfl ?_)
  refine s_op (o_move (v := (.int .i64 n)) rfl ?_)
  refine s_op (o_max (a := n) (b := 0) rfl rfl ?_)
  refine s_op (o_nilCheck rfl ?_)
  refine s_op (o_fieldAddr (k := 1) (fun _ => by kernel_rfl) rfl ?_)
  refine s_eff (o_store1 (c' := #[(.bool p.off), (.bool true), (.int .i64 p.left), (.int .i64 p.uses)]) ti4 rfl rfl rfl (by simp) rfl (hH.front 0 rfl) fun w2 hH3 => ?_)
  refine s_op (o_nilCheck rfl ?_)
  refine s_op (o_fieldAddr (k := 2) (fun _ => by kernel_rfl) rfl ?_)
  refine s_eff (o_store1 (c' := #[(.bool p.off), (.bool true), (.int .i64 (max n 0)), (.int .i64 p.uses)]) ti3 rfl rfl rfl (by simp) rfl (hH3.front 0 rfl) fun w4 hH5 => ?_)
  refine s_nil ?_
  refine c_end0 Try.results59  ?_
  exact ⟨rfl, hH5⟩
set_option maxHeartbeats 4000000 in
theorem pon_c {E w : World} {R : List Hp} {pb : Nat} {p : Pw} (hH : Has E w [[Hp.one pb (.cells #[(.bool p.off), (.bool p.armed), (.int .i64 p.left), (.int .i64 p.uses)] 101 (0, 0))], R]) :
    Calls Try.prog 57 #[(.pointer (some ⟨pb, 0, none⟩))] w fun e w' => e = .returned (.bool (!p.off)) ∧ Has E w' [[Hp.one pb (.cells #[(.bool p.off), (.bool p.armed), (.int .i64 p.left), (.int .i64 p.uses)] 101 (0, 0))], R] := by
  refine c_enter (args := [(.pointer (some ⟨pb, 0, none⟩))]) Try.func57 rfl Try.ntmps57 (by simp) ?_
  refine wp_seq_k fun K1 hK1 => ?_
  refine c_region ?_
  refine s_op (o_assign (v := (.bool false)) rfl ?_)
  refine s_nil ?_
  refine t_norm (hK1 _ _ ?_)
  refine wp_seq_k fun K2 hK2 => ?_
  refine c_region ?_
  refine s_op (o_move (v := (.pointer (some ⟨pb, 0, none⟩))) rfl ?_)
  refine s_op (o_pnnil (p := some _) Try.underlying99 rfl rfl ?_)
  refine s_op (o_move (v := (.bool true)) rfl ?_)
  refine s_on 5 rfl rfl (o_move (v := (.pointer (some ⟨pb, 0, none⟩))) rfl ?_)
  refine s_on 5 rfl rfl (o_nilCheck rfl ?_)
  refine s_on 5 rfl rfl (o_fieldAddr (k := 0) (fun _ => by kernel_rfl) rfl ?_)
  refine s_on 5 rfl rfl (o_load1 (v := (.bool p.off)) Try.underlying4 rfl rfl hH (seg_sub 0 rfl) (CellsAt.one rfl) ?_)
  refine s_on 5 rfl rfl (o_not rfl ?_)
  refine s_op (o_pick_t (u := (.bool (!p.off))) rfl rfl ?_)
  refine s_op (o_assign (v := (.bool (!p.off))) rfl ?_)
  refine s_nil ?_
  refine t_norm (hK2 _ _ ?_)
  refine wp_ret ?_
  refine c_ret1 Try.results57  (v := (.bool (!p.off))) rfl ?_
  exact ⟨rfl, hH⟩
set_option maxHeartbeats 4000000 in
theorem puses_c {E w : World} {R : List Hp} {pb : Nat} {p : Pw} (hH : Has E w [[Hp.one pb (.cells #[(.bool p.off), (.bool p.armed), (.int .i64 p.left), (.int .i64 p.uses)] 101 (0, 0))], R]) :
    Calls Try.prog 58 #[(.pointer (some ⟨pb, 0, none⟩))] w fun e w' => e = .returned (.int .i64 p.uses) ∧ Has E w' [[Hp.one pb (.cells #[(.bool p.off), (.bool p.armed), (.int .i64 p.left), (.int .i64 p.uses)] 101 (0, 0))], R] := by
  refine c_enter (args := [(.pointer (some ⟨pb, 0, none⟩))]) Try.func58 rfl Try.ntmps58 (by simp) ?_
  refine wp_seq_k fun K1 hK1 => ?_
  refine c_region ?_
  refine s_op (o_assign (v := (.int .i64 0)) rfl ?_)
  refine s_nil ?_
  refine t_norm (hK1 _ _ ?_)
  refine wp_seq_k fun K2 hK2 => ?_
  refine wp_seq_k fun K3 hK3 => ?_
  refine c_region ?_
  refine s_op (o_move (v := (.pointer (some ⟨pb, 0, none⟩))) rfl ?_)
  refine s_op (o_pnil (p := some _) Try.underlying99 rfl rfl ?_)
  refine s_nil ?_
  refine t_norm (hK3 _ _ ?_)
  refine c_false rfl rfl ?_
  refine wp_skip ?_
  refine t_norm (hK2 _ _ ?_)
  refine wp_seq_k fun K4 hK4 => ?_
  refine c_region ?_
  refine s_op (o_move (v := (.pointer (some ⟨pb, 0, none⟩))) rfl ?_)
  refine s_op (o_nilCheck rfl ?_)
  refine s_op (o_fieldAddr (k := 3) (fun _ => by kernel_rfl) rfl ?_)
  refine s_op (o_load1 (v := (.int .i64 p.uses)) Try.underlying3 rfl rfl hH (seg_sub 0 rfl) (CellsAt.one rfl) ?_)
  refine s_op (o_assign (v := (.int .i64 p.uses)) rfl ?_)
  refine s_nil ?_
  refine t_norm (hK4 _ _ ?_)
  refine wp_ret ?_
  refine c_ret1 Try.results58  (v := (.int .i64 p.uses)) rfl ?_
  exact ⟨rfl, hH⟩
end Go.Q
