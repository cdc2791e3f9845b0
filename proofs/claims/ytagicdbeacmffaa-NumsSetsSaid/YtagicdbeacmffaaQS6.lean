/-
  Parts of a walk: what functions of the program compute, each told by a theorem.
-/
import Derived.Test.YtagicdbeacmffaaQBase
import Derived.Test.YtagicdbeacmffaaQDel
import Derived.Test.YtagicdbeacmffaaQM
set_option linter.unusedVariables false
set_option linter.unusedSimpArgs false
namespace Go.Q
open Go.Proofs
set_option linter.unusedVariables false
set_option maxRecDepth 100000
attribute [local irreducible] wpList OK Code.wp
set_option maxHeartbeats 4000000 in
theorem del1 {E w : World} {R : List Hp} (g n cap i : Nat) (c : Array Value) (hH : Has E w [[Hp.one g (.cells c 3 (0, 0))], R]) (hi : i < n) (hnc : n ≤ cap) (hcap : cap ≤ 9223372036854775807) (hcs : c.size = cap * 1) (h1 : ∀ u ∈ c.toList.take (n * 1), u.oneCell' = true) :
    Calls Try.prog 51 #[(.slice (some ⟨g, 0, none⟩) n cap), (.int .i64 (i : Int)), (.int .i64 ((i : Int) + 1))] w fun e w' => ∃ v' hs', e = .returned v' ∧ Own 3 1 v' (n - 1) (c.toList.take (i * 1) ++ (c.toList.take (n * 1)).drop ((i + 1) * 1)) hs' ∧ Has E w' [hs', R] := by
  refine c_enter (args := [(.slice (some ⟨g, 0, none⟩) n cap), (.int .i64 (i : Int)), (.int .i64 ((i : Int) + 1))]) Try.func51 rfl Try.ntmps51 (by simp) ?_
  refine wp_seq_k fun K1 hK1 => ?_
  refine c_region ?_
  refine s_op (o_assign (v := (.slice none 0 0)) rfl ?_)
  refine s_nil ?_
  refine t_norm (hK1 _ _ ?_)
  refine wp_seq_k fun K2 hK2 => ?_
  refine c_region ?_
  refine s_op (o_move (v := (.slice (some ⟨g, 0, none⟩) n cap)) rfl ?_)
  refine s_op (o_move (v := (.int .i64 (i : Int))) rfl ?_)
  refine s_op (o_move (v := (.int .i64 ((i : Int) + 1))) rfl ?_)
  refine s_op (o_move (v := (.slice (some ⟨g, 0, none⟩) n cap)) rfl ?_)
  refine s_op (o_len Try.underlying28 rfl ?_)
  obtain ⟨o3, n4, c5, ho9, hn6, hc7, hq8⟩ := rsl_ex4 0 1 (i := (i : Int)) (j := (i : Int) + 1) (m := (n : Int)) (by omega) (by omega) (by omega)
  refine s_op (o_rsl2 (i := (i : Int)) (j := (i : Int) + 1) (m := (n : Int)) Try.underlying28 ti3 rfl (bounds_lhm (n := n) (cap := cap) (i := (i : Int)) (j := (i : Int) + 1) (m := (n : Int)) (by omega) (by omega) (by omega) (by omega)) (by omega) (by omega) (by omega) ho9 hn6 hc7 ?_)
  refine s_nil ?_
  refine t_norm (hK2 _ _ ?_)
  refine wp_seq_k fun K10 hK10 => ?_
  refine wp_seq_k fun K11 hK11 => ?_
  refine c_region ?_
  refine s_op (o_move (v := (.int .i64 (i : Int))) rfl ?_)
  refine s_op (o_move (v := (.int .i64 ((i : Int) + 1))) rfl ?_)
  refine s_op (o_eql (a := (i : Int)) (b := (i : Int) + 1) rfl rfl ?_)
  refine s_nil ?_
  refine t_norm (hK11 _ _ ?_)
  refine c_cond rfl (fun h12 => ?_) (fun h12 => ?_)
  · -- (i : Int) = (i : Int) + 1
    exfalso; omega
  · -- not: (i : Int) = (i : Int) + 1
    refine wp_skip ?_
    refine t_norm (hK10 _ _ ?_)
    refine wp_seq_k fun K13 hK13 => ?_
    refine c_region ?_
    refine s_op (o_move (v := (.slice (some ⟨g, 0, none⟩) n cap)) rfl ?_)
    refine s_op (o_len Try.underlying28 rfl ?_)
    refine s_op (o_assign (v := (.int .i64 (n : Int))) rfl ?_)
    refine s_nil ?_
    refine t_norm (hK13 _ _ ?_)
    refine wp_seq_k fun K14 hK14 => ?_
    obtain ⟨o15, n16, c17, ho21, hn18, hc19, hq20⟩ := rsl_ex4 0 1 (i := 0) (j := (i : Int)) (m := ((cap : Nat) : Int)) (by omega) (by omega) (by omega)
    obtain ⟨o22, n23, c24, ho28, hn25, hc26, hq27⟩ := rsl_ex4 0 1 (i := (i : Int) + 1) (j := ((n : Nat) : Int)) (m := ((cap : Nat) : Int)) (by omega) (by omega) (by omega)
    have hH34 : Has E w [R, [Hp.one g (.cells c 3 (0, 0))]] := (hH.front 1 rfl).first 2 rfl
    refine c_flow [R] (fun i_ => match i_ with | 6 => [Hp.one g (.cells c 3 (0, 0))] | _ => []) (fun i_ v_ h_ => match i_ with | 0 => v_ = (.slice (some ⟨g, 0, none⟩) n cap) ∧ h_ = [] | 1 => v_ = (.int .i64 (i : Int)) ∧ h_ = [] | 2 => v_ = (.slice (some ⟨g, o15, none⟩) n16 c17) ∧ h_ = [] | 3 => v_ = (.slice (some ⟨g, 0, none⟩) n cap) ∧ h_ = [] | 4 => v_ = (.int .i64 ((i : Int) + 1)) ∧ h_ = [] | 5 => v_ = (.slice (some ⟨g, o22, none⟩) n23 c24) ∧ h_ = [] | 6 => ∃ (c29 : Array Value), v_ = (.slice (some ⟨g, o15, none⟩) (n16 + n23) c17) ∧ h_ = [Hp.one g (.cells c29 3 (0, 0))] ∧ (c29.size = c.size) ∧ (c29.toList = (if 0 < n23 then c.toList.take (o15 + n16 * 1) ++ ((c.toList.drop o22).take (n23 * 1)) ++ c.toList.drop (o15 + (n16 + n23) * 1) else c.toList)) | 7 => v_ = (.slice (some ⟨g, o15, none⟩) (n16 + n23) c17) ∧ h_ = [] | _ => True) mixed (by kernel_rfl) (flow_has (cs := [[Hp.one g (.cells c 3 (0, 0))]]) hH34 rfl) ?_ ?_
    · intro i_ o_ ho_ r' w' G hs_ ht
      match i_, ho_ with
      | 0, ho_ =>
        obtain rfl := Option.some.inj ho_
        have e0 : r' 0 = (.slice (some ⟨g, 0, none⟩) n cap) := ht.was 0 (by kernel_rfl)
        have hG := ht.has.drop
        refine o_move (v := (.slice (some ⟨g, 0, none⟩) n cap)) e0 ?_
        exact ⟨_, ⟨rfl, rfl⟩, hG⟩
      | 1, ho_ =>
        obtain rfl := Option.some.inj ho_
        have e1 : r' 1 = (.int .i64 (i : Int)) := ht.was 1 (by kernel_rfl)
        have hG := ht.has.drop
        refine o_move (v := (.int .i64 (i : Int))) e1 ?_
        exact ⟨_, ⟨rfl, rfl⟩, hG⟩
      | 2, ho_ =>
        obtain rfl := Option.some.inj ho_
        obtain ⟨e20, eh0⟩ := (ht.done 0 _ rfl rfl).1
        obtain ⟨e21, eh1⟩ := (ht.done 1 _ rfl rfl).1
        have hG := ht.has.drop
        refine o_rsl2 (i := 0) (j := (i : Int)) (m := ((cap : Nat) : Int)) Try.underlying28 ti3 e20 (fun w => by simp only [Option.map_some, Option.map_none, show ev 33 r' (.tmp 21) = _ from e21]; exact bounds_h (n := n) (cap := cap) (j := (i : Int)) (by omega) (by omega) w) (by omega) (by omega) (by omega) ho21 hn18 hc19 ?_
        exact ⟨_, ⟨rfl, rfl⟩, hG⟩
      | 3, ho_ =>
        obtain rfl := Option.some.inj ho_
        have e0 : r' 0 = (.slice (some ⟨g, 0, none⟩) n cap) := ht.was 0 (by kernel_rfl)
        have hG := ht.has.drop
        refine o_move (v := (.slice (some ⟨g, 0, none⟩) n cap)) e0 ?_
        exact ⟨_, ⟨rfl, rfl⟩, hG⟩
      | 4, ho_ =>
        obtain rfl := Option.some.inj ho_
        have e2 : r' 2 = (.int .i64 ((i : Int) + 1)) := ht.was 2 (by kernel_rfl)
        have hG := ht.has.drop
        refine o_move (v := (.int .i64 ((i : Int) + 1))) e2 ?_
        exact ⟨_, ⟨rfl, rfl⟩, hG⟩
      | 5, ho_ =>
        obtain rfl := Option.some.inj ho_
        obtain ⟨e23, eh3⟩ := (ht.done 3 _ rfl rfl).1
        obtain ⟨e24, eh4⟩ := (ht.done 4 _ rfl rfl).1
        have hG := ht.has.drop
        refine o_rsl2 (i := (i : Int) + 1) (j := ((n : Nat) : Int)) (m := ((cap : Nat) : Int)) Try.underlying28 ti3 e23 (fun w => by simp only [Option.map_some, Option.map_none, show ev 33 r' (.tmp 24) = _ from e24]; exact bounds_l (n := n) (cap := cap) (i := (i : Int) + 1) (by omega) (by omega) w) (by omega) (by omega) (by omega) ho28 hn25 hc26 ?_
        exact ⟨_, ⟨rfl, rfl⟩, hG⟩
      | 6, ho_ =>
        obtain rfl := Option.some.inj ho_
        obtain ⟨e22, eh2⟩ := (ht.done 2 _ rfl rfl).1
        obtain ⟨e25, eh5⟩ := (ht.done 5 _ rfl rfl).1
        have hG := ht.has
        refine o_approom (ds := (c.toList.drop o22).take (n23 * 1)) Try.underlying28 ti3 e22 e25 (sl_raw (b := g) (o := o22) (sz := 1) (n := n23) (cap := c24) (c := c) (e := 3) (g := (0, 0)) (by omega) (by omega) (by omega)) hG sub_l (by omega) (by omega) (fun u hu => by exact h1 u (mem_part1 hu (by omega))) fun c29 w30 hz33 hc31 hH32 => ?_
        exact ⟨_, ⟨c29, rfl, rfl, hz33, hc31⟩, hH32⟩
      | 7, ho_ =>
        obtain rfl := Option.some.inj ho_
        obtain ⟨c29, e26, eh6, hz33, hc31⟩ := (ht.done 6 _ rfl rfl).1
        have hG := ht.has.drop
        refine o_assign (v := (.slice (some ⟨g, o15, none⟩) (n16 + n23) c17)) e26 ?_
        exact ⟨_, ⟨rfl, rfl⟩, hG⟩
      | i_ + 8, ho_ => exact absurd ho_ (by simp)
    · intro vs34 hs35 w36 hT37 hH38
      obtain ⟨e0_, eh0_⟩ := hT37 0 _ rfl
      obtain ⟨e1_, eh1_⟩ := hT37 1 _ rfl
      obtain ⟨e2_, eh2_⟩ := hT37 2 _ rfl
      obtain ⟨e3_, eh3_⟩ := hT37 3 _ rfl
      obtain ⟨e4_, eh4_⟩ := hT37 4 _ rfl
      obtain ⟨e5_, eh5_⟩ := hT37 5 _ rfl
      obtain ⟨c29, e6_, eh6_, hz33, hc31⟩ := hT37 6 _ rfl
      obtain ⟨e7_, eh7_⟩ := hT37 7 _ rfl
      have hH39 : Has E w36 ([R] ++ [[Hp.one g (.cells c29 3 (0, 0))]]) := flow_back (cs := [[Hp.one g (.cells c29 3 (0, 0))]]) hH38 (by show (hs35 0 ++ (hs35 1 ++ (hs35 2 ++ (hs35 3 ++ (hs35 4 ++ (hs35 5 ++ (hs35 6 ++ (hs35 7 ++ [])))))))) = _; rw [eh0_, eh1_, eh2_, eh3_, eh4_, eh5_, eh6_, eh7_]; rfl)
      generalize hr41 : puts vs34 _ 0 _ = r40
      have e42_0 : r40 0 = (.slice (some ⟨g, o15, none⟩) (n16 + n23) c17) := by rw [← hr41]; exact e7_
      have e42_1 : r40 1 = (.int .i64 (i : Int)) := by rw [← hr41]; exact rfl
      have e42_2 : r40 2 = (.int .i64 ((i : Int) + 1)) := by rw [← hr41]; exact rfl
      have e42_6 : r40 6 = (.slice none 0 0) := by rw [← hr41]; exact rfl
      have e42_7 : r40 7 = (.int .i64 (n : Int)) := by rw [← hr41]; exact rfl
      have e42_16 : r40 16 = (.bool (decide ((i : Int) = (i : Int) + 1))) := by rw [← hr41]; exact rfl
      refine t_norm (hK14 _ _ ?_)
      refine wp_seq_k fun K43 hK43 => ?_
      refine c_region ?_
      refine s_op (o_move (v := (.slice (some ⟨g, o15, none⟩) (n16 + n23) c17)) e42_0 ?_)
      refine s_op (o_move (v := (.slice (some ⟨g, o15, none⟩) (n16 + n23) c17)) e42_0 ?_)
      refine s_op (o_len Try.underlying28 rfl ?_)
      refine s_op (o_move (v := (.int .i64 (n : Int))) e42_7 ?_)
      obtain ⟨o44, n45, c46, ho50, hn47, hc48, hq49⟩ := rsl_ex4 o15 1 (i := ((n16 + n23) : Int)) (j := (n : Int)) (m := ((c17 : Nat) : Int)) (by omega) (by omega) (by omega)
      refine s_op (o_rsl2 (i := ((n16 + n23) : Int)) (j := (n : Int)) (m := ((c17 : Nat) : Int)) Try.underlying28 ti3 rfl (bounds_lh (n := (n16 + n23)) (cap := c17) (i := ((n16 + n23) : Int)) (j := (n : Int)) (by omega) (by omega) (by omega)) (by omega) (by omega) (by omega) ho50 hn47 hc48 ?_)
      refine s_eff (o_clear Try.underlying28 ti3 rfl rfl (hH39.front 1 rfl) (by omega) (by decide) fun c51 w52 v53 hc54 hc55 hH56 => ?_)
      refine s_nil ?_
      refine t_norm (hK43 _ _ ?_)
      refine wp_seq_k fun K57 hK57 => ?_
      refine c_region ?_
      refine s_op (o_move (v := (.slice (some ⟨g, o15, none⟩) (n16 + n23) c17)) e42_0 ?_)
      refine s_op (o_assign (v := (.slice (some ⟨g, o15, none⟩) (n16 + n23) c17)) rfl ?_)
      refine s_nil ?_
      refine t_norm (hK57 _ _ ?_)
      refine wp_ret ?_
      refine c_ret1 Try.results51  (v := (.slice (some ⟨g, o15, none⟩) (n16 + n23) c17)) rfl ?_
      refine ⟨_, _, rfl, ⟨?_, .inr ⟨g, c17, c51, by rw [show (n16 + n23) = n - 1 from by omega, show (o15 : Nat) = 0 from by omega], rfl, by omega, by simp only [maxLen]; omega, by have h_ := hc54; simp only [Array.length_toList] at h_; omega, ?_⟩⟩, hH56⟩
      · simp only [List.length_append, List.length_drop, List.length_take, Array.length_toList]; omega
      · simp only [Nat.mul_one]; exact del_law hc31 hc55 (by omega) (by omega) (by omega) (by omega) hi (by simp only [Array.length_toList]; omega)
end Go.Q
