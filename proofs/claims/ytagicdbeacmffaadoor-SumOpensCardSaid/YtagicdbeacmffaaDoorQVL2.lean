/-
  Parts of a walk: what functions of the program compute, each told by a theorem.
-/
import Derived.Test.YtagicdbeacmffaaDoorQV3
set_option linter.unusedVariables false
set_option linter.unusedSimpArgs false
namespace Go.Q
open Go.Proofs
set_option linter.unusedVariables false
set_option maxRecDepth 100000
attribute [local irreducible] wpList OK Code.wp
set_option maxHeartbeats 4000000 in
theorem SumOpens_c {E w : World} {R : List Hp} (hH : Has E w [R]) (hg : CellsAt R 0 0 nibV) {v : Value} {l : List (List UInt8)} (hv : Sl R 1 v l.length (l.map sV)) (hlb : ∀ x ∈ l, x.length ≤ 9223372036854775807) :
    Calls Tryd.prog 5 #[v] w fun e w' => e = .returned (.bool true) ∧ Has E w' [R] := by
  have hn_ := hv.le
  refine c_enter (args := [v]) Tryd.func5 rfl Tryd.ntmps5 (by simp) ?_
  refine wp_seq_k fun K1 hK1 => ?_
  refine c_region ?_
  refine s_op (o_assign (v := (.bool false)) rfl ?_)
  refine s_nil ?_
  refine t_norm (hK1 _ _ ?_)
  refine wp_seq_k fun K2 hK2 => ?_
  refine wp_seq_k fun K3 hK3 => ?_
  refine c_region ?_
  refine s_op (o_move (v := v) rfl ?_)
  refine s_op (o_callf (vs := #[v]) ca12 rfl (args1 rfl) (lawjoin_c hH.all (hv.mono (seg_sub 0 rfl)) hlb) ?_)
  rintro _ w9 ⟨t4, b5, rfl, hb6, hX7⟩
  refine ⟨_, rfl, ?_⟩
  have hH8 : Has E w9 [R] := hX7.of_all
  refine s_op (o_move (v := (.tuple #[(S t4), (.bool b5)])) rfl ?_)
  refine s_op (o_extract (v := (S t4)) rfl rfl ?_)
  refine s_op (o_extract (v := (.bool b5)) rfl rfl ?_)
  refine s_op (o_assign (v := (S t4)) rfl ?_)
  refine s_op (o_assign (v := (.bool b5)) rfl ?_)
  refine s_nil ?_
  refine t_norm (hK3 _ _ ?_)
  refine wp_seq_k fun K10 hK10 => ?_
  refine c_region ?_
  refine s_op (o_move (v := (.bool b5)) rfl ?_)
  refine s_op (o_not rfl ?_)
  refine s_nil ?_
  refine t_norm (hK10 _ _ ?_)
  refine c_condb rfl (fun h11 => ?_) (fun h11 => ?_)
  · -- !b5
    have h11_n : b5 = false := by simpa using h11
    refine wp_seq_k fun K12 hK12 => ?_
    refine c_region ?_
    refine s_op (o_callf (vs := #[]) ca13 rfl (args0) (awake2_c hH8.all (hg.mono (seg_sub 0 rfl))) ?_)
    rintro _ w15 ⟨rfl, hX13⟩
    refine ⟨_, rfl, ?_⟩
    have hH14 := hX13.of_all
    refine s_op (o_assign (v := (.bool true)) rfl ?_)
    refine s_nil ?_
    refine t_norm (hK12 _ _ ?_)
    refine wp_ret ?_
    refine t_ret (c_ret1 Tryd.results5 (v := (.bool true)) rfl ?_)
    exact ⟨rfl, hH14⟩
  · -- not: !b5
    have h11_n : b5 = true := by simpa using h11
    have hjt : b5 = true := by simpa using h11
    obtain ⟨hj1, hj2, hj3⟩ := hb6 hjt
    have hjb : ∀ x ∈ l, x.length ≤ 2000 := fun x hx => by have := flat_le hx; omega
    refine wp_skip ?_
    refine t_norm (hK2 _ _ ?_)
    refine wp_seq_k fun K16 hK16 => ?_
    refine c_region ?_
    refine s_op (o_assign (v := (.bool true)) rfl ?_)
    refine s_nil ?_
    refine t_norm (hK16 _ _ ?_)
    refine wp_seq_k fun K17 hK17 => ?_
    refine wp_seq_k fun K18 hK18 => ?_
    refine c_region ?_
    refine s_op (o_assign (v := (.int .i64 0)) rfl ?_)
    refine s_nil ?_
    refine t_norm (hK18 _ _ ?_)
    refine wp_block ?_
    let I20 : Nat → (Nat → Value) → World → Prop := fun n__ r__ w__ => ∃ (k : Nat) (ba : Bool), n__ = l.length - k ∧ Has E w__ [R] ∧ (k ≤ l.length) ∧ (ba = (l.take k).all (fun x => (openS x).2)) ∧ r__ 0 = v ∧ r__ 4 = (.bool b5) ∧ r__ 5 = (.bool ba) ∧ r__ 6 = (.int .i64 (k : Int)) ∧ r__ 17 = (.bool (!b5))
    refine c_loop I20 _ ⟨0, true, rfl, hH8, Nat.zero_le _, rfl, rfl, rfl, rfl, rfl, rfl⟩ ?_
    rintro n_ r23 w21 ⟨k, ba, rfl, hH22, hk, hba, e19_0, e19_4, e19_5, e19_6, e19_17⟩
    refine wp_seq_k fun K24 hK24 => ?_
    refine wp_seq_k fun K25 hK25 => ?_
    refine c_region ?_
    refine s_op (o_move (v := (.int .i64 (k : Int))) e19_6 ?_)
    refine s_op (o_move (v := v) e19_0 ?_)
    refine s_op (o_lenS Tryd.underlying22 rfl hv ?_)
    refine s_op (o_lss (a := (k : Int)) (b := ((l.length : Nat) : Int)) rfl rfl ?_)
    refine s_nil ?_
    refine t_norm (hK25 _ _ ?_)
    refine c_cond rfl (fun h26 => ?_) (fun h26 => ?_)
    · -- (k : Int) < ((l.length : Nat) : Int)
      refine wp_skip ?_
      refine t_norm (hK24 _ _ ?_)
      refine wp_seq_k fun K27 hK27 => ?_
      refine wp_block ?_
      refine wp_seq_k fun K28 hK28 => ?_
      refine c_region ?_
      refine s_op (o_move (v := v) e19_0 ?_)
      refine s_op (o_move (v := (.int .i64 (k : Int))) e19_6 ?_)
      obtain ⟨x32, hx33⟩ : ∃ x_, l[((k : Int)).toNat]? = some x_ := get_some (by omega)
      refine s_op (o_index1 Tryd.underlying22 ti9 rfl hv rfl (by omega) hx33 fun b29 o30 hc31 => ?_)
      refine s_op (o_load1 (v := (S x32)) Tryd.underlying9 rfl rfl hH22 (seg_sub 0 rfl) hc31 ?_)
      refine s_op (o_callf (vs := #[(S x32)]) ca20 rfl (args1 rfl) (open_c hH22.all (hg.mono (seg_sub 0 rfl)) x32 (hlb _ (List.mem_of_getElem? hx33))) ?_)
      rintro _ w36 ⟨rfl, hX34⟩
      refine ⟨_, rfl, ?_⟩
      have hH35 := hX34.of_all
      refine s_op (o_move (v := (.tuple #[(S ((openS x32).1)), (.bool ((openS x32).2))])) rfl ?_)
      refine s_op (o_extract (v := (S ((openS x32).1))) rfl rfl ?_)
      refine s_op (o_extract (v := (.bool ((openS x32).2))) rfl rfl ?_)
      refine s_op (o_assign (v := (S ((openS x32).1))) rfl ?_)
      refine s_op (o_assign (v := (.bool ((openS x32).2))) rfl ?_)
      refine s_nil ?_
      refine t_norm (hK28 _ _ ?_)
      refine wp_seq_k fun K37 hK37 => ?_
      refine c_region ?_
      refine s_op (o_move (v := v) e19_0 ?_)
      refine s_op (o_move (v := (.int .i64 (k : Int))) e19_6 ?_)
      refine s_op (o_index1 Tryd.underlying22 ti9 rfl hv rfl (by omega) hx33 fun b38 o39 hc40 => ?_)
      refine s_op (o_load1 (v := (S x32)) Tryd.underlying9 rfl rfl hH35 (seg_sub 0 rfl) hc40 ?_)
      refine s_op (o_callf (vs := #[(S x32)]) ca21 rfl (args1 rfl) (refopen_c hH35.all x32 (hlb _ (List.mem_of_getElem? hx33))) ?_)
      rintro _ w43 ⟨rfl, hX41⟩
      refine ⟨_, rfl, ?_⟩
      have hH42 := hX41.of_all
      refine s_op (o_move (v := (.tuple #[(S ((openS x32).1)), (.bool ((openS x32).2))])) rfl ?_)
      refine s_op (o_extract (v := (S ((openS x32).1))) rfl rfl ?_)
      refine s_op (o_extract (v := (.bool ((openS x32).2))) rfl rfl ?_)
      refine s_op (o_assign (v := (S ((openS x32).1))) rfl ?_)
      refine s_op (o_assign (v := (.bool ((openS x32).2))) rfl ?_)
      refine s_nil ?_
      refine t_norm (hK37 _ _ ?_)
      refine wp_seq_k fun K44 hK44 => ?_
      refine wp_seq_k fun K45 hK45 => ?_
      refine c_region ?_
      refine s_op (o_move (v := (S ((openS x32).1))) rfl ?_)
      refine s_op (o_move (v := (S ((openS x32).1))) rfl ?_)
      refine s_op (o_sneq (a := (openS x32).1) (b := (openS x32).1) rfl rfl ?_)
      refine s_op (o_move (v := (.bool (decide ((openS x32).1 ≠ (openS x32).1)))) rfl ?_)
      by_cases h46 : (openS x32).1 ≠ (openS x32).1
      · -- (openS x32).1 ≠ (openS x32).1
        exact absurd rfl h46
      · -- not: (openS x32).1 ≠ (openS x32).1
        refine s_on 44 rfl (congrArg Value.bool (decide_eq_false h46)) (o_move (v := (.bool ((openS x32).2))) rfl ?_)
        refine s_on 44 rfl (congrArg Value.bool (decide_eq_false h46)) (o_move (v := (.bool ((openS x32).2))) rfl ?_)
        refine s_on 44 rfl (congrArg Value.bool (decide_eq_false h46)) (o_neqb Tryd.underlying4 rfl rfl ?_)
        refine s_op (o_pick_f (u := (.bool (!(((openS x32).2) == ((openS x32).2))))) ((rfl : _ = _).trans (congrArg Value.bool (decide_eq_false h46))) rfl ?_)
        refine s_nil ?_
        refine t_norm (hK45 _ _ ?_)
        refine c_condb rfl (fun h47 => ?_) (fun h47 => ?_)
        · -- !(((openS x32).2) == ((openS x32).2))
          simp at h47
        · -- not: !(((openS x32).2) == ((openS x32).2))
          refine wp_skip ?_
          refine t_norm (hK44 _ _ ?_)
          refine c_region ?_
          refine s_op (o_move (v := (.bool ba)) e19_5 ?_)
          refine s_op (o_move (v := (.bool ba)) rfl ?_)
          rcases Bool.eq_false_or_eq_true ba with h48 | h48
          · -- ba
            refine s_on 50 rfl (congrArg Value.bool h48) (o_move (v := (.bool ((openS x32).2))) rfl ?_)
            refine s_op (o_pick_t (u := (.bool ((openS x32).2))) ((rfl : _ = _).trans (congrArg Value.bool h48)) rfl ?_)
            refine s_op (o_assign (v := (.bool ((openS x32).2))) rfl ?_)
            refine s_nil ?_
            refine b_norm ?_
            refine t_norm (hK27 _ _ ?_)
            refine c_region ?_
            refine s_op (o_move (v := (.int .i64 (k : Int))) e19_6 ?_)
            refine s_op (o_add (a := (k : Int)) (b := 1) rfl rfl (w64 (by omega) (by omega)) ?_)
            refine s_op (o_assign (v := (.int .i64 ((k : Int) + 1))) rfl ?_)
            refine s_nil ?_
            refine t_norm ⟨l.length - (k + 1), _, rfl, ?_, ?_⟩
            · omega
            · exact ⟨(k + 1), ((openS x32).2), rfl, hH42, (by omega), (by rw [take_succ_of (show l[k]? = some _ from hx33), List.all_append, ← hba, List.all_cons, List.all_nil, Bool.and_true, h48, Bool.true_and]), e19_0, e19_4, rfl, rfl, e19_17⟩
          · -- not: ba
            refine s_off (b' := false) 50 rfl (congrArg Value.bool h48) rfl ?_
            refine s_op (o_pick_f (u := (.bool false)) ((rfl : _ = _).trans (congrArg Value.bool h48)) rfl ?_)
            refine s_op (o_assign (v := (.bool false)) rfl ?_)
            refine s_nil ?_
            refine b_norm ?_
            refine t_norm (hK27 _ _ ?_)
            refine c_region ?_
            refine s_op (o_move (v := (.int .i64 (k : Int))) e19_6 ?_)
            refine s_op (o_add (a := (k : Int)) (b := 1) rfl rfl (w64 (by omega) (by omega)) ?_)
            refine s_op (o_assign (v := (.int .i64 ((k : Int) + 1))) rfl ?_)
            refine s_nil ?_
            refine t_norm ⟨l.length - (k + 1), _, rfl, ?_, ?_⟩
            · omega
            · exact ⟨(k + 1), false, rfl, hH42, (by omega), (by rw [take_succ_of (show l[k]? = some _ from hx33), List.all_append, ← hba, List.all_cons, List.all_nil, Bool.and_true, h48, Bool.false_and]), e19_0, e19_4, rfl, rfl, e19_17⟩
    · -- not: (k : Int) < ((l.length : Nat) : Int)
      refine wp_exit ?_
      refine t_exit (t_exit (x_in (?_)))
      refine t_norm (hK17 _ _ ?_)
      refine wp_seq_k fun K49 hK49 => ?_
      refine c_region ?_
      refine s_op (o_move (v := v) e19_0 ?_)
      refine s_op (o_callf (vs := #[v]) ca22 rfl (args1 rfl) (good_c hH22.all (hg.mono (seg_sub 0 rfl)) (hv.mono (seg_sub 0 rfl)) hlb) ?_)
      rintro _ w52 ⟨rfl, hX50⟩
      refine ⟨_, rfl, ?_⟩
      have hH51 := hX50.of_all
      refine s_op (o_move (v := (.bool ba)) e19_5 ?_)
      refine s_op (o_eqlb Tryd.underlying4 rfl rfl ?_)
      refine s_op (o_move (v := (.bool ((l.all (fun x => (openS x).2)) == ba))) rfl ?_)
      rcases Bool.eq_false_or_eq_true ((l.all (fun x => (openS x).2)) == ba) with h53 | h53
      · -- (l.all (fun x => (openS x).2)) == ba
        refine s_on 57 rfl (congrArg Value.bool h53) (o_callf (vs := #[]) ca13 rfl (args0) (awake2_c hH51.all (hg.mono (seg_sub 0 rfl))) ?_)
        rintro _ w56 ⟨rfl, hX54⟩
        refine ⟨_, rfl, ?_⟩
        have hH55 := hX54.of_all
        refine s_op (o_pick_t (u := (.bool true)) ((rfl : _ = _).trans (congrArg Value.bool h53)) rfl ?_)
        refine s_op (o_assign (v := (.bool true)) rfl ?_)
        refine s_nil ?_
        refine t_norm (hK49 _ _ ?_)
        refine wp_ret ?_
        refine c_ret1 Tryd.results5 (v := (.bool true)) rfl ?_
        exact ⟨rfl, hH55⟩
      · -- not: (l.all (fun x => (openS x).2)) == ba
        have e : k = l.length := by omega
        rw [e, List.take_length] at hba
        rw [hba] at h53
        simp at h53
end Go.Q
