/-
  Parts of a walk: what functions of the program compute, each told by a theorem.
-/
import Derived.Test.YtagicdbeacmffaaQT7
set_option linter.unusedVariables false
set_option linter.unusedSimpArgs false
namespace Go.Q
open Go.Proofs
set_option linter.unusedVariables false
set_option maxRecDepth 100000
attribute [local irreducible] wpList OK Code.wp
set_option maxHeartbeats 4000000 in
theorem csees_c {E w : World} {R hs : List Hp} {b m1 m2 c1 c2 : Nat} {hi : Int} {v : Value} {es1 es2 : Array MapEntry} {str : List Int} {pg tx : List (Int × Int)} (hH : Has E w [hs, [Hp.one m1 (.map es1 c1)], [Hp.one m2 (.map es2 c2)], [Hp.one b (.cells #[(.int .i64 hi), v, (.map (some m1)), (.map (some m2))] 75 (0, 0))], R]) (ho : Own 3 1 v str.length (str.map iV) hs) (h1 : MapII es1 pg) (h2 : MapII es2 tx) (hge : ∀ q ∈ str, (0 : Int) ≤ q) (x y : Int) :
    Calls Try.prog 14 #[(.pointer (some ⟨b, 0, none⟩)), (.int .i64 x), (.int .i64 y)] w fun e w' => ∃ es2' c2', e = .returned (.tuple #[]) ∧ MapII es2' (if 0 ≤ x ∧ 0 ≤ y then putI tx x (List.foldl max (getI tx x) [getI pg y]) else tx) ∧ Has E w' [hs, [Hp.one m1 (.map es1 c1)], [Hp.one m2 (.map es2' c2')], [Hp.one b (.cells #[(.int .i64 hi), v, (.map (some m1)), (.map (some m2))] 75 (0, 0))], R] := by
  refine c_enter (args := [(.pointer (some ⟨b, 0, none⟩)), (.int .i64 x), (.int .i64 y)]) Try.func14 rfl Try.ntmps14 (by simp) ?_
  refine wp_seq_k fun K21 hK21 => ?_
  refine c_region ?_
  refine s_op (o_move (v := (.pointer (some ⟨b, 0, none⟩))) rfl ?_)
  refine s_op (o_pnnil (p := some _) Try.underlying25 rfl rfl ?_)
  refine s_op (o_move (v := (.bool true)) rfl ?_)
  refine s_on 8 rfl rfl (o_move (v := (.int .i64 x)) rfl ?_)
  refine s_on 8 rfl rfl (o_geq (a := x) (b := 0) rfl rfl ?_)
  refine s_op (o_pick_t (u := (.bool (decide (0 ≤ x)))) rfl rfl ?_)
  refine s_op (o_move (v := (.bool (decide (0 ≤ x)))) rfl ?_)
  by_cases h22 : 0 ≤ x
  · -- 0 ≤ x
    refine s_on 12 rfl (congrArg Value.bool (decide_eq_true h22)) (o_move (v := (.int .i64 y)) rfl ?_)
    refine s_on 12 rfl (congrArg Value.bool (decide_eq_true h22)) (o_geq (a := y) (b := 0) rfl rfl ?_)
    refine s_op (o_pick_t (u := (.bool (decide (0 ≤ y)))) ((rfl : _ = _).trans (congrArg Value.bool (decide_eq_true h22))) rfl ?_)
    refine s_nil ?_
    refine t_norm (hK21 _ _ ?_)
    refine c_cond rfl (fun h23 => ?_) (fun h23 => ?_)
    · -- 0 ≤ y
      have hH35 : Has E w [hs, [Hp.one m1 (.map es1 c1)], [Hp.one b (.cells #[(.int .i64 hi), v, (.map (some m1)), (.map (some m2))] 75 (0, 0))], R, [Hp.one m2 (.map es2 c2)]] := (((((hH.front 2 rfl).front 4 rfl).front 4 rfl).front 4 rfl).front 4 rfl).first 5 rfl
      refine c_flow [hs, [Hp.one m1 (.map es1 c1)], [Hp.one b (.cells #[(.int .i64 hi), v, (.map (some m1)), (.map (some m2))] 75 (0, 0))], R] (fun i_ => match i_ with | 19 => [Hp.one m2 (.map es2 c2)] | _ => []) (fun i_ v_ h_ => match i_ with | 0 => v_ = (.pointer (some ⟨b, 0, none⟩)) ∧ h_ = [] | 1 => v_ = (.pointer (some ⟨b, 0, none⟩)) ∧ h_ = [] | 2 => v_ = (.pointer (some ⟨b, 3, none⟩)) ∧ h_ = [] | 3 => v_ = (.map (some m2)) ∧ h_ = [] | 4 => v_ = (.int .i64 x) ∧ h_ = [] | 5 => v_ = (.pointer (some ⟨b, 0, none⟩)) ∧ h_ = [] | 6 => v_ = (.pointer (some ⟨b, 0, none⟩)) ∧ h_ = [] | 7 => v_ = (.pointer (some ⟨b, 3, none⟩)) ∧ h_ = [] | 8 => v_ = (.map (some m2)) ∧ h_ = [] | 9 => v_ = (.int .i64 x) ∧ h_ = [] | 10 => v_ = (.int .i64 (getI tx x)) ∧ h_ = [] | 11 => v_ = (.pointer (some ⟨b, 0, none⟩)) ∧ h_ = [] | 12 => v_ = (.pointer (some ⟨b, 0, none⟩)) ∧ h_ = [] | 13 => v_ = (.pointer (some ⟨b, 2, none⟩)) ∧ h_ = [] | 14 => v_ = (.map (some m1)) ∧ h_ = [] | 15 => v_ = (.int .i64 y) ∧ h_ = [] | 16 => v_ = (.int .i64 (getI pg y)) ∧ h_ = [] | 17 => ∃ (b24 : Nat), v_ = (.slice (some ⟨b24, 0, none⟩) 1 1) ∧ h_ = [Hp.one b24 (.cells #[(.int .i64 (getI pg y))] 3 (0, 0))] | 18 => v_ = (.int .i64 ([getI pg y].foldl max (getI tx x))) ∧ h_ = [] | 19 => ∃ (es30 : Array MapEntry) (c31 : Nat), v_ = undef ∧ h_ = [Hp.one m2 (.map es30 c31)] ∧ (MapII es30 (putI tx x ([getI pg y].foldl max (getI tx x)))) | _ => True) mixed (by kernel_rfl) (flow_has (cs := [[Hp.one m2 (.map es2 c2)]]) hH35 rfl) ?_ ?_
      · intro i_ o_ ho_ r' w' G hs_ ht
        match i_, ho_ with
        | 0, ho_ =>
          obtain rfl := Option.some.inj ho_
          have e0 : r' 0 = (.pointer (some ⟨b, 0, none⟩)) := ht.was 0 (by kernel_rfl)
          have hG := ht.has.drop
          refine o_move (v := (.pointer (some ⟨b, 0, none⟩))) e0 ?_
          exact ⟨_, ⟨rfl, rfl⟩, hG⟩
        | 1, ho_ =>
          obtain rfl := Option.some.inj ho_
          obtain ⟨e16, eh0⟩ := (ht.done 0 _ rfl rfl).1
          have hG := ht.has.drop
          refine o_nilCheck e16 ?_
          exact ⟨_, ⟨rfl, rfl⟩, hG⟩
        | 2, ho_ =>
          obtain rfl := Option.some.inj ho_
          obtain ⟨e17, eh1⟩ := (ht.done 1 _ rfl rfl).1
          have hG := ht.has.drop
          refine o_fieldAddr (k := 3) (fun _ => by kernel_rfl) e17 ?_
          exact ⟨_, ⟨rfl, rfl⟩, hG⟩
        | 3, ho_ =>
          obtain rfl := Option.some.inj ho_
          obtain ⟨e18, eh2⟩ := (ht.done 2 _ rfl rfl).1
          have hG := ht.has.drop
          refine o_load1 (v := (.map (some m2))) Try.underlying71 rfl e18 hG (ht.fr [Hp.one b (.cells #[(.int .i64 hi), v, (.map (some m1)), (.map (some m2))] 75 (0, 0))] (by simp)) (CellsAt.one rfl) ?_
          exact ⟨_, ⟨rfl, rfl⟩, hG⟩
        | 4, ho_ =>
          obtain rfl := Option.some.inj ho_
          have e1 : r' 1 = (.int .i64 x) := ht.was 1 (by kernel_rfl)
          have hG := ht.has.drop
          refine o_move (v := (.int .i64 x)) e1 ?_
          exact ⟨_, ⟨rfl, rfl⟩, hG⟩
        | 5, ho_ =>
          obtain rfl := Option.some.inj ho_
          have e0 : r' 0 = (.pointer (some ⟨b, 0, none⟩)) := ht.was 0 (by kernel_rfl)
          have hG := ht.has.drop
          refine o_move (v := (.pointer (some ⟨b, 0, none⟩))) e0 ?_
          exact ⟨_, ⟨rfl, rfl⟩, hG⟩
        | 6, ho_ =>
          obtain rfl := Option.some.inj ho_
          obtain ⟨e21, eh5⟩ := (ht.done 5 _ rfl rfl).1
          have hG := ht.has.drop
          refine o_nilCheck e21 ?_
          exact ⟨_, ⟨rfl, rfl⟩, hG⟩
        | 7, ho_ =>
          obtain rfl := Option.some.inj ho_
          obtain ⟨e22, eh6⟩ := (ht.done 6 _ rfl rfl).1
          have hG := ht.has.drop
          refine o_fieldAddr (k := 3) (fun _ => by kernel_rfl) e22 ?_
          exact ⟨_, ⟨rfl, rfl⟩, hG⟩
        | 8, ho_ =>
          obtain rfl := Option.some.inj ho_
          obtain ⟨e23, eh7⟩ := (ht.done 7 _ rfl rfl).1
          have hG := ht.has.drop
          refine o_load1 (v := (.map (some m2))) Try.underlying71 rfl e23 hG (ht.fr [Hp.one b (.cells #[(.int .i64 hi), v, (.map (some m1)), (.map (some m2))] 75 (0, 0))] (by simp)) (CellsAt.one rfl) ?_
          exact ⟨_, ⟨rfl, rfl⟩, hG⟩
        | 9, ho_ =>
          obtain rfl := Option.some.inj ho_
          have e1 : r' 1 = (.int .i64 x) := ht.was 1 (by kernel_rfl)
          have hG := ht.has.drop
          refine o_move (v := (.int .i64 x)) e1 ?_
          exact ⟨_, ⟨rfl, rfl⟩, hG⟩
        | 10, ho_ =>
          obtain rfl := Option.some.inj ho_
          obtain ⟨e24, eh8⟩ := (ht.done 8 _ rfl rfl).1
          obtain ⟨e25, eh9⟩ := (ht.done 9 _ rfl rfl).1
          have hG := ht.has.drop
          refine o_lookupI (L := [Hp.one m2 (.map es2 c2)]) Try.underlying71 Try.underlying3 ti3 e24 e25 hG (ht.todo 19 rfl) rfl h2 ?_
          exact ⟨_, ⟨rfl, rfl⟩, hG⟩
        | 11, ho_ =>
          obtain rfl := Option.some.inj ho_
          have e0 : r' 0 = (.pointer (some ⟨b, 0, none⟩)) := ht.was 0 (by kernel_rfl)
          have hG := ht.has.drop
          refine o_move (v := (.pointer (some ⟨b, 0, none⟩))) e0 ?_
          exact ⟨_, ⟨rfl, rfl⟩, hG⟩
        | 12, ho_ =>
          obtain rfl := Option.some.inj ho_
          obtain ⟨e27, eh11⟩ := (ht.done 11 _ rfl rfl).1
          have hG := ht.has.drop
          refine o_nilCheck e27 ?_
          exact ⟨_, ⟨rfl, rfl⟩, hG⟩
        | 13, ho_ =>
          obtain rfl := Option.some.inj ho_
          obtain ⟨e28, eh12⟩ := (ht.done 12 _ rfl rfl).1
          have hG := ht.has.drop
          refine o_fieldAddr (k := 2) (fun _ => by kernel_rfl) e28 ?_
          exact ⟨_, ⟨rfl, rfl⟩, hG⟩
        | 14, ho_ =>
          obtain rfl := Option.some.inj ho_
          obtain ⟨e29, eh13⟩ := (ht.done 13 _ rfl rfl).1
          have hG := ht.has.drop
          refine o_load1 (v := (.map (some m1))) Try.underlying71 rfl e29 hG (ht.fr [Hp.one b (.cells #[(.int .i64 hi), v, (.map (some m1)), (.map (some m2))] 75 (0, 0))] (by simp)) (CellsAt.one rfl) ?_
          exact ⟨_, ⟨rfl, rfl⟩, hG⟩
        | 15, ho_ =>
          obtain rfl := Option.some.inj ho_
          have e2 : r' 2 = (.int .i64 y) := ht.was 2 (by kernel_rfl)
          have hG := ht.has.drop
          refine o_move (v := (.int .i64 y)) e2 ?_
          exact ⟨_, ⟨rfl, rfl⟩, hG⟩
        | 16, ho_ =>
          obtain rfl := Option.some.inj ho_
          obtain ⟨e30, eh14⟩ := (ht.done 14 _ rfl rfl).1
          obtain ⟨e31, eh15⟩ := (ht.done 15 _ rfl rfl).1
          have hG := ht.has.drop
          refine o_lookupI (L := [Hp.one m1 (.map es1 c1)]) Try.underlying71 Try.underlying3 ti3 e30 e31 hG (ht.fr [Hp.one m1 (.map es1 c1)] (by simp)) rfl h1 ?_
          exact ⟨_, ⟨rfl, rfl⟩, hG⟩
        | 17, ho_ =>
          obtain rfl := Option.some.inj ho_
          obtain ⟨e32, eh16⟩ := (ht.done 16 _ rfl rfl).1
          have hG := ht.has.drop
          refine o_buildSlice (ps := #[(0, (.int .i64 (getI pg y)))]) (cells := #[(.int .i64 (getI pg y))]) Try.underlying28 ti3 (by decide) (parts1 e32) (by kernel_rfl) hG fun b24 w25 hH26 => ?_
          exact ⟨_, ⟨b24, rfl, rfl⟩, hH26⟩
        | 18, ho_ =>
          obtain rfl := Option.some.inj ho_
          obtain ⟨e26, eh10⟩ := (ht.done 10 _ rfl rfl).1
          obtain ⟨b24, e33, eh17⟩ := (ht.done 17 _ rfl rfl).1
          have hG := ht.has.drop
          refine o_callf (vs := #[(.int .i64 (getI tx x)), (.slice (some ⟨b24, 0, none⟩) 1 1)]) ca31 rfl (args2 e26 e33) (most_c hG.all (l := [getI pg y]) (getI tx x) ((sl_lit (f := iV) (l := [getI pg y]) rfl rfl (by simp)).mono (eh17 ▸ (ht.done 17 _ rfl rfl).2))) ?_
          rintro _ w29 ⟨rfl, hX27⟩
          refine ⟨_, rfl, ?_⟩
          have hH28 := hX27.of_all
          exact ⟨_, ⟨rfl, rfl⟩, hH28⟩
        | 19, ho_ =>
          obtain rfl := Option.some.inj ho_
          obtain ⟨e19, eh3⟩ := (ht.done 3 _ rfl rfl).1
          obtain ⟨e20, eh4⟩ := (ht.done 4 _ rfl rfl).1
          obtain ⟨b24, e33, eh17⟩ := (ht.done 17 _ rfl rfl).1
          obtain ⟨e34, eh18⟩ := (ht.done 18 _ rfl rfl).1
          have hG := ht.has
          refine o_mapUpdateI Try.underlying71 Try.underlying3 e19 e20 e34 hG h2 fun es30 c31 w32 he33 hH34 => ?_
          exact ⟨_, ⟨es30, c31, rfl, rfl, he33⟩, hH34⟩
        | i_ + 20, ho_ => exact absurd ho_ (by simp)
      · intro vs35 hs36 w37 hT38 hH39
        obtain ⟨e0_, eh0_⟩ := hT38 0 _ rfl
        obtain ⟨e1_, eh1_⟩ := hT38 1 _ rfl
        obtain ⟨e2_, eh2_⟩ := hT38 2 _ rfl
        obtain ⟨e3_, eh3_⟩ := hT38 3 _ rfl
        obtain ⟨e4_, eh4_⟩ := hT38 4 _ rfl
        obtain ⟨e5_, eh5_⟩ := hT38 5 _ rfl
        obtain ⟨e6_, eh6_⟩ := hT38 6 _ rfl
        obtain ⟨e7_, eh7_⟩ := hT38 7 _ rfl
        obtain ⟨e8_, eh8_⟩ := hT38 8 _ rfl
        obtain ⟨e9_, eh9_⟩ := hT38 9 _ rfl
        obtain ⟨e10_, eh10_⟩ := hT38 10 _ rfl
        obtain ⟨e11_, eh11_⟩ := hT38 11 _ rfl
        obtain ⟨e12_, eh12_⟩ := hT38 12 _ rfl
        obtain ⟨e13_, eh13_⟩ := hT38 13 _ rfl
        obtain ⟨e14_, eh14_⟩ := hT38 14 _ rfl
        obtain ⟨e15_, eh15_⟩ := hT38 15 _ rfl
        obtain ⟨e16_, eh16_⟩ := hT38 16 _ rfl
        obtain ⟨b24, e17_, eh17_⟩ := hT38 17 _ rfl
        obtain ⟨e18_, eh18_⟩ := hT38 18 _ rfl
        obtain ⟨es30, c31, e19_, eh19_, he33⟩ := hT38 19 _ rfl
        have hH40 : Has E w37 ([hs, [Hp.one m1 (.map es1 c1)], [Hp.one b (.cells #[(.int .i64 hi), v, (.map (some m1)), (.map (some m2))] 75 (0, 0))], R] ++ [[Hp.one b24 (.cells #[(.int .i64 (getI pg y))] 3 (0, 0))], [Hp.one m2 (.map es30 c31)]]) := flow_back (cs := [[Hp.one b24 (.cells #[(.int .i64 (getI pg y))] 3 (0, 0))], [Hp.one m2 (.map es30 c31)]]) hH39 (by show (hs36 0 ++ (hs36 1 ++ (hs36 2 ++ (hs36 3 ++ (hs36 4 ++ (hs36 5 ++ (hs36 6 ++ (hs36 7 ++ (hs36 8 ++ (hs36 9 ++ (hs36 10 ++ (hs36 11 ++ (hs36 12 ++ (hs36 13 ++ (hs36 14 ++ (hs36 15 ++ (hs36 16 ++ (hs36 17 ++ (hs36 18 ++ (hs36 19 ++ [])))))))))))))))))))) = _; rw [eh0_, eh1_, eh2_, eh3_, eh4_, eh5_, eh6_, eh7_, eh8_, eh9_, eh10_, eh11_, eh12_, eh13_, eh14_, eh15_, eh16_, eh17_, eh18_, eh19_]; rfl)
        generalize hr42 : puts vs35 _ 0 _ = r41
        have e43_0 : r41 0 = (.pointer (some ⟨b, 0, none⟩)) := by rw [← hr42]; exact rfl
        have e43_1 : r41 1 = (.int .i64 x) := by rw [← hr42]; exact rfl
        have e43_2 : r41 2 = (.int .i64 y) := by rw [← hr42]; exact rfl
        have e43_15 : r41 15 = (.bool (decide (0 ≤ y))) := by rw [← hr42]; exact rfl
        refine c_end0 Try.results14 ?_
        have hH44 : Has E w37 [hs, [Hp.one m1 (.map es1 c1)], [Hp.one m2 (.map es30 c31)], [Hp.one b (.cells #[(.int .i64 hi), v, (.map (some m1)), (.map (some m2))] 75 (0, 0))], R] := (((((hH40.front 3 rfl).front 3 rfl).front 5 rfl).front 4 rfl).front 4 rfl).first 5 rfl
        exact ⟨_, _, rfl, (by rw [if_pos (by omega)]; exact he33), hH44⟩
    · -- not: 0 ≤ y
      refine wp_skip ?_
      refine c_end0 Try.results14 ?_
      exact ⟨_, _, rfl, (by rw [if_neg (by omega)]; exact h2), hH⟩
  · -- not: 0 ≤ x
    refine s_off (b' := false) 12 rfl (congrArg Value.bool (decide_eq_false h22)) rfl ?_
    refine s_off (b' := false) 12 rfl (congrArg Value.bool (decide_eq_false h22)) rfl ?_
    refine s_op (o_pick_f (u := (.bool false)) ((rfl : _ = _).trans (congrArg Value.bool (decide_eq_false h22))) rfl ?_)
    refine s_nil ?_
    refine t_norm (hK21 _ _ ?_)
    refine c_false rfl rfl ?_
    refine wp_skip ?_
    refine c_end0 Try.results14 ?_
    exact ⟨_, _, rfl, (by rw [if_neg (by omega)]; exact h2), hH⟩
set_option maxHeartbeats 4000000 in
theorem ctop_c {E w : World} {R : List Hp} {b m1 m2 : Nat} {hi : Int} {v : Value} (hH : Has E w [[Hp.one b (.cells #[(.int .i64 hi), v, (.map (some m1)), (.map (some m2))] 75 (0, 0))], R]) :
    Calls Try.prog 25 #[(.pointer (some ⟨b, 0, none⟩))] w fun e w' => e = .returned (.int .i64 hi) ∧ Has E w' [[Hp.one b (.cells #[(.int .i64 hi), v, (.map (some m1)), (.map (some m2))] 75 (0, 0))], R] := by
  refine c_enter (args := [(.pointer (some ⟨b, 0, none⟩))]) Try.func25 rfl Try.ntmps25 (by simp) ?_
  refine wp_seq_k fun K1 hK1 => ?_
  refine c_region ?_
  refine s_op (o_assign (v := (.int .i64 0)) rfl ?_)
  refine s_nil ?_
  refine t_norm (hK1 _ _ ?_)
  refine wp_seq_k fun K2 hK2 => ?_
  refine wp_seq_k fun K3 hK3 => ?_
  refine c_region ?_
  refine s_op (o_move (v := (.pointer (some ⟨b, 0, none⟩))) rfl ?_)
  refine s_op (o_pnil (p := some _) Try.underlying25 rfl rfl ?_)
  refine s_nil ?_
  refine t_norm (hK3 _ _ ?_)
  refine c_false rfl rfl ?_
  refine wp_skip ?_
  refine t_norm (hK2 _ _ ?_)
  refine wp_seq_k fun K4 hK4 => ?_
  refine c_region ?_
  refine s_op (o_move (v := (.pointer (some ⟨b, 0, none⟩))) rfl ?_)
  refine s_op (o_nilCheck rfl ?_)
  refine s_op (o_fieldAddr (k := 0) (fun _ => by kernel_rfl) rfl ?_)
  refine s_op (o_fieldAddr (k := 0) (fun _ => by kernel_rfl) rfl ?_)
  refine s_op (o_load1 (v := (.int .i64 hi)) Try.underlying3 rfl rfl hH (seg_sub 0 rfl) (CellsAt.one rfl) ?_)
  refine s_op (o_assign (v := (.int .i64 hi)) rfl ?_)
  refine s_nil ?_
  refine t_norm (hK4 _ _ ?_)
  refine wp_ret ?_
  refine c_ret1 Try.results25 (v := (.int .i64 hi)) rfl ?_
  exact ⟨rfl, hH⟩
end Go.Q
