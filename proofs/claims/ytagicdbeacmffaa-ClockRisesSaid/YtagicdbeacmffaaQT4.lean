/-
  Parts of a walk: what functions of the program compute, each told by a theorem.
-/
import Derived.Test.YtagicdbeacmffaaQKI
import Derived.Test.YtagicdbeacmffaaQJ
import Derived.Test.YtagicdbeacmffaaQM
import Derived.Test.YtagicdbeacmffaaQBase
set_option linter.unusedVariables false
set_option linter.unusedSimpArgs false
namespace Go.Q
open Go.Proofs
set_option linter.unusedVariables false
set_option maxRecDepth 100000
attribute [local irreducible] wpList OK Code.wp
set_option maxHeartbeats 4000000 in
theorem chas_c {E w : World} {R hs : List Hp} {b m1 m2 c1 c2 : Nat} {hi : Int} {v : Value} {es1 es2 : Array MapEntry} {str : List Int} {pg tx : List (Int × Int)} (hH : Has E w [hs, [Hp.one m1 (.map es1 c1)], [Hp.one m2 (.map es2 c2)], [Hp.one b (.cells #[(.int .i64 hi), v, (.map (some m1)), (.map (some m2))] 75 (0, 0))], R]) (ho : Own 3 1 v str.length (str.map iV) hs) (h1 : MapII es1 pg) (h2 : MapII es2 tx) (hge : ∀ q ∈ str, (0 : Int) ≤ q) {vl : Value} {l : List Int} (hv : Ints R vl l) :
    Calls Try.prog 46 #[(.pointer (some ⟨b, 0, none⟩)), vl] w fun e w' => e = .returned (.bool (decide (∀ y ∈ l, 0 ≤ y ∧ y < (str.length : Int)))) ∧ Has E w' [hs, [Hp.one m1 (.map es1 c1)], [Hp.one m2 (.map es2 c2)], [Hp.one b (.cells #[(.int .i64 hi), v, (.map (some m1)), (.map (some m2))] 75 (0, 0))], R] := by
  have hn := hv.le
  refine c_enter (args := [(.pointer (some ⟨b, 0, none⟩)), vl]) Try.func46 rfl Try.ntmps46 (by simp) ?_
  refine wp_seq_k fun K1 hK1 => ?_
  refine c_region ?_
  refine s_op (o_assign (v := (.bool false)) rfl ?_)
  refine s_nil ?_
  refine t_norm (hK1 _ _ ?_)
  refine wp_seq_k fun K2 hK2 => ?_
  refine wp_seq_k fun K3 hK3 => ?_
  refine c_region ?_
  refine s_op (o_move (v := vl) rfl ?_)
  refine s_op (o_lenS Try.underlying28 rfl hv ?_)
  refine s_op (o_move (v := (.int .i64 0)) rfl ?_)
  refine s_nil ?_
  refine t_norm (hK3 _ _ ?_)
  refine wp_block ?_
  let I5 : Nat → (Nat → Value) → World → Prop := fun n__ r__ w__ => ∃ (k : Nat), n__ = l.length - k ∧ Has E w__ [hs, [Hp.one m1 (.map es1 c1)], [Hp.one m2 (.map es2 c2)], [Hp.one b (.cells #[(.int .i64 hi), v, (.map (some m1)), (.map (some m2))] 75 (0, 0))], R] ∧ (k ≤ l.length) ∧ (∀ y ∈ l.take k, 0 ≤ y ∧ y < (str.length : Int)) ∧ r__ 0 = (.pointer (some ⟨b, 0, none⟩)) ∧ r__ 1 = vl ∧ r__ 7 = vl ∧ r__ 8 = (.int .i64 ((l.length : Nat) : Int)) ∧ r__ 9 = (.int .i64 (k : Int))
  refine c_loop I5 _ ⟨0, rfl, hH, (by omega), (by simp), rfl, rfl, rfl, rfl, rfl⟩ ?_
  rintro n_ r8 w6 ⟨k, rfl, hH7, hk, hk1, e4_0, e4_1, e4_7, e4_8, e4_9⟩
  refine wp_seq_k fun K9 hK9 => ?_
  refine c_region ?_
  refine s_op (o_lss (a := (k : Int)) (b := ((l.length : Nat) : Int)) e4_9 e4_8 ?_)
  refine s_nil ?_
  refine t_norm (hK9 _ _ ?_)
  refine wp_seq_k fun K10 hK10 => ?_
  refine c_cond rfl (fun h11 => ?_) (fun h11 => ?_)
  · -- (k : Int) < ((l.length : Nat) : Int)
    refine wp_skip ?_
    refine t_norm (hK10 _ _ ?_)
    refine wp_seq_k fun K12 hK12 => ?_
    refine wp_block ?_
    refine wp_seq_k fun K13 hK13 => ?_
    refine c_region ?_
    obtain ⟨x17, hx18⟩ : ∃ x_, l[((k : Int)).toNat]? = some x_ := get_some (by omega)
    refine s_op (o_index1 Try.underlying28 ti3 e4_7 hv e4_9 (by omega) hx18 fun b14 o15 hc16 => ?_)
    refine s_op (o_load1 (v := (.int .i64 x17)) Try.underlying3 rfl rfl hH7 (seg_sub 4 rfl) hc16 ?_)
    refine s_op (o_assign (v := (.int .i64 x17)) rfl ?_)
    refine s_nil ?_
    refine t_norm (hK13 _ _ ?_)
    refine wp_seq_k fun K19 hK19 => ?_
    refine c_region ?_
    refine s_op (o_move (v := (.pointer (some ⟨b, 0, none⟩))) e4_0 ?_)
    refine s_op (o_pnil (p := some _) Try.underlying25 rfl rfl ?_)
    refine s_op (o_move (v := (.bool false)) rfl ?_)
    refine s_on 15 rfl rfl (o_move (v := (.int .i64 x17)) rfl ?_)
    refine s_on 15 rfl rfl (o_lss (a := x17) (b := 0) rfl rfl ?_)
    refine s_op (o_pick_f (u := (.bool (decide (x17 < 0)))) rfl rfl ?_)
    refine s_op (o_move (v := (.bool (decide (x17 < 0)))) rfl ?_)
    by_cases h20 : x17 < 0
    · -- x17 < 0
      refine s_off (b' := true) 19 rfl (congrArg Value.bool (decide_eq_true h20)) rfl ?_
      refine s_off (b' := true) 19 rfl (congrArg Value.bool (decide_eq_true h20)) rfl ?_
      refine s_off (b' := true) 19 rfl (congrArg Value.bool (decide_eq_true h20)) rfl ?_
      refine s_off (b' := true) 19 rfl (congrArg Value.bool (decide_eq_true h20)) rfl ?_
      refine s_off (b' := true) 19 rfl (congrArg Value.bool (decide_eq_true h20)) rfl ?_
      refine s_off (b' := true) 19 rfl (congrArg Value.bool (decide_eq_true h20)) rfl ?_
      refine s_off (b' := true) 19 rfl (congrArg Value.bool (decide_eq_true h20)) rfl ?_
      refine s_op (o_pick_t (u := (.bool true)) ((rfl : _ = _).trans (congrArg Value.bool (decide_eq_true h20))) rfl ?_)
      refine s_nil ?_
      refine t_norm (hK19 _ _ ?_)
      refine c_true rfl rfl ?_
      refine wp_seq_k fun K21 hK21 => ?_
      refine c_region ?_
      refine s_op (o_assign (v := (.bool false)) rfl ?_)
      refine s_nil ?_
      refine t_norm (hK21 _ _ ?_)
      refine wp_ret ?_
      refine b_ret (t_ret (t_ret (b_ret (t_ret (c_ret1 Try.results46 (v := (.bool false)) rfl ?_)))))
      exact ⟨by rw [decide_eq_false (fun g => by have := g x17 (List.mem_of_getElem? hx18); omega)], hH7⟩
    · -- not: x17 < 0
      refine s_on 19 rfl (congrArg Value.bool (decide_eq_false h20)) (o_move (v := (.int .i64 x17)) rfl ?_)
      refine s_on 19 rfl (congrArg Value.bool (decide_eq_false h20)) (o_move (v := (.pointer (some ⟨b, 0, none⟩))) e4_0 ?_)
      refine s_on 19 rfl (congrArg Value.bool (decide_eq_false h20)) (o_nilCheck rfl ?_)
      refine s_on 19 rfl (congrArg Value.bool (decide_eq_false h20)) (o_fieldAddr (k := 1) (fun _ => by kernel_rfl) rfl ?_)
      refine s_on 19 rfl (congrArg Value.bool (decide_eq_false h20)) (o_load1 (v := v) Try.underlying28 rfl rfl hH7 (seg_sub 3 rfl) (CellsAt.one rfl) ?_)
      refine s_on 19 rfl (congrArg Value.bool (decide_eq_false h20)) (o_lenS Try.underlying28 rfl ho.sl ?_)
      refine s_on 19 rfl (congrArg Value.bool (decide_eq_false h20)) (o_geq (a := x17) (b := ((str.length : Nat) : Int)) rfl rfl ?_)
      refine s_op (o_pick_f (u := (.bool (decide (((str.length : Nat) : Int) ≤ x17)))) ((rfl : _ = _).trans (congrArg Value.bool (decide_eq_false h20))) rfl ?_)
      refine s_nil ?_
      refine t_norm (hK19 _ _ ?_)
      refine c_cond rfl (fun h22 => ?_) (fun h22 => ?_)
      · -- ((str.length : Nat) : Int) ≤ x17
        refine wp_seq_k fun K23 hK23 => ?_
        refine c_region ?_
        refine s_op (o_assign (v := (.bool false)) rfl ?_)
        refine s_nil ?_
        refine t_norm (hK23 _ _ ?_)
        refine wp_ret ?_
        refine b_ret (t_ret (t_ret (b_ret (t_ret (c_ret1 Try.results46 (v := (.bool false)) rfl ?_)))))
        exact ⟨by rw [decide_eq_false (fun g => by have := g x17 (List.mem_of_getElem? hx18); omega)], hH7⟩
      · -- not: ((str.length : Nat) : Int) ≤ x17
        refine wp_skip ?_
        refine b_norm ?_
        refine t_norm (hK12 _ _ ?_)
        refine c_region ?_
        refine s_op (o_add (a := (k : Int)) (b := 1) e4_9 rfl (w64 (by omega) (by omega)) ?_)
        refine s_op (o_move (v := (.int .i64 ((k : Int) + 1))) rfl ?_)
        refine s_nil ?_
        refine t_norm ⟨l.length - (k + 1), _, rfl, ?_, ?_⟩
        · omega
        · exact ⟨(k + 1), rfl, hH7, (by omega), (by rw [take_succ_of (show l[k]? = some _ from hx18)]; exact fun y hy => (List.mem_append.1 hy).elim (hk1 y) (fun g => by rw [List.mem_singleton.1 g]; omega)), e4_0, e4_1, e4_7, e4_8, rfl⟩
  · -- not: (k : Int) < ((l.length : Nat) : Int)
    refine wp_exit ?_
    refine t_exit (t_exit (x_in (?_)))
    refine t_norm (hK2 _ _ ?_)
    refine wp_seq_k fun K24 hK24 => ?_
    refine c_region ?_
    refine s_op (o_move (v := (.pointer (some ⟨b, 0, none⟩))) e4_0 ?_)
    refine s_op (o_pnnil (p := some _) Try.underlying25 rfl rfl ?_)
    refine s_op (o_assign (v := (.bool true)) rfl ?_)
    refine s_nil ?_
    refine t_norm (hK24 _ _ ?_)
    refine wp_ret ?_
    refine c_ret1 Try.results46 (v := (.bool true)) rfl ?_
    have e : k = l.length := by omega
    rw [e, List.take_of_length_le (Nat.le_refl _)] at hk1
    exact ⟨by rw [decide_eq_true hk1], hH7⟩
end Go.Q
