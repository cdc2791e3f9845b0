/-
  Parts of a walk: what functions of the program compute, each told by a theorem.
-/
import Derived.Test.YtagicdbeacmffaaQH
import Derived.Test.YtagicdbeacmffaaQNums
import Derived.Test.YtagicdbeacmffaaQBase
set_option linter.unusedVariables false
set_option linter.unusedSimpArgs false
namespace Go.Q
open Go.Proofs
set_option linter.unusedVariables false
set_option maxRecDepth 100000
attribute [local irreducible] wpList OK Code.wp
set_option maxHeartbeats 4000000 in
theorem ins1_room {E w : World} {R : List Hp} (g bu n cap i : Nat) (c cu : Array Value) (hH : Has E w [[Hp.one g (.cells c 3 (0, 0))], [Hp.one bu (.cells cu 3 (0, 0))], R]) (hi : i < n) (hnc : n ≤ cap) (hroom : n + 1 ≤ cap) (hcap : cap ≤ 9223372036854775807) (hcs : c.size = cap * 1) (hcu : cu.size = 1) (hbig : (n + 1) * 8 ≤ 140737488355328) (h1 : ∀ u ∈ c.toList.take (n * 1), u.oneCell' = true) (h2 : ∀ u ∈ cu.toList, u.oneCell' = true) :
    Calls Try.prog 50 #[(.slice (some ⟨g, 0, none⟩) n cap), (.int .i64 (i : Int)), (.slice (some ⟨bu, 0, none⟩) 1 1)] w fun e w' => ∃ v' hs', e = .returned v' ∧ Own 3 1 v' (n + 1) (c.toList.take (i * 1) ++ cu.toList ++ (c.toList.take (n * 1)).drop (i * 1)) hs' ∧ Has E w' [hs', R] := by
  refine c_enter (args := [(.slice (some ⟨g, 0, none⟩) n cap), (.int .i64 (i : Int)), (.slice (some ⟨bu, 0, none⟩) 1 1)]) Try.func50 rfl Try.ntmps50 (by simp) ?_
  refine wp_seq_k fun K1 hK1 => ?_
  refine c_region ?_
  refine s_op (o_assign (v := (.slice none 0 0)) rfl ?_)
  refine s_nil ?_
  refine t_norm (hK1 _ _ ?_)
  refine wp_seq_k fun K2 hK2 => ?_
  refine c_region ?_
  refine s_op (o_move (v := (.slice (some ⟨g, 0, none⟩) n cap)) rfl ?_)
  refine s_op (o_move (v := (.int .i64 (i : Int))) rfl ?_)
  obtain ⟨o3, n4, c5, ho9, hn6, hc7⟩ := rsl_ex3 0 1 (i := (i : Int)) (j := ((n : Nat) : Int)) (m := ((cap : Nat) : Int)) (by omega) (by omega) (by omega)
  refine s_op (o_rsl2 (i := (i : Int)) (j := ((n : Nat) : Int)) (m := ((cap : Nat) : Int)) Try.underlying28 ti3 rfl (bounds_l (n := n) (cap := cap) (i := (i : Int)) (by omega) (by omega)) (by omega) (by omega) (by omega) (off3 ho9 (by omega)) hn6 hc7 ?_)
  refine s_nil ?_
  refine t_norm (hK2 _ _ ?_)
  refine wp_seq_k fun K10 hK10 => ?_
  refine c_region ?_
  refine s_op (o_move (v := (.slice (some ⟨bu, 0, none⟩) 1 1)) rfl ?_)
  refine s_op (o_len Try.underlying28 rfl ?_)
  refine s_op (o_assign (v := (.int .i64 (1 : Int))) rfl ?_)
  refine s_nil ?_
  refine t_norm (hK10 _ _ ?_)
  refine wp_seq_k fun K11 hK11 => ?_
  refine wp_seq_k fun K12 hK12 => ?_
  refine c_region ?_
  refine s_op (o_move (v := (.int .i64 (1 : Int))) rfl ?_)
  refine s_op (o_eql (a := (1 : Int)) (b := 0) rfl rfl ?_)
  refine s_nil ?_
  refine t_norm (hK12 _ _ ?_)
  refine c_cond rfl (fun h13 => ?_) (fun h13 => ?_)
  · -- (1 : Int) = 0
    exfalso; omega
  · -- not: (1 : Int) = 0
    refine wp_skip ?_
    refine t_norm (hK11 _ _ ?_)
    refine wp_seq_k fun K14 hK14 => ?_
    refine c_region ?_
    refine s_op (o_move (v := (.slice (some ⟨g, 0, none⟩) n cap)) rfl ?_)
    refine s_op (o_len Try.underlying28 rfl ?_)
    refine s_op (o_assign (v := (.int .i64 (n : Int))) rfl ?_)
    refine s_nil ?_
    refine t_norm (hK14 _ _ ?_)
    refine wp_seq_k fun K15 hK15 => ?_
    refine wp_seq_k fun K16 hK16 => ?_
    refine c_region ?_
    refine s_op (o_move (v := (.int .i64 (i : Int))) rfl ?_)
    refine s_op (o_move (v := (.int .i64 (n : Int))) rfl ?_)
    refine s_op (o_eql (a := (i : Int)) (b := (n : Int)) rfl rfl ?_)
    refine s_nil ?_
    refine t_norm (hK16 _ _ ?_)
    refine c_cond rfl (fun h17 => ?_) (fun h17 => ?_)
    · -- (i : Int) = (n : Int)
      exfalso; omega
    · -- not: (i : Int) = (n : Int)
      refine wp_skip ?_
      refine t_norm (hK15 _ _ ?_)
      refine wp_seq_k fun K18 hK18 => ?_
      refine wp_seq_k fun K19 hK19 => ?_
      refine c_region ?_
      refine s_op (o_move (v := (.int .i64 (n : Int))) rfl ?_)
      refine s_op (o_move (v := (.int .i64 (1 : Int))) rfl ?_)
      refine s_op (o_add (a := (n : Int)) (b := (1 : Int)) rfl rfl (w64 (by omega) (by omega)) ?_)
      refine s_op (o_move (v := (.slice (some ⟨g, 0, none⟩) n cap)) rfl ?_)
      refine s_op (o_cap Try.underlying28 rfl ?_)
      refine s_op (o_gtr (a := (n : Int) + (1 : Int)) (b := (cap : Int)) rfl rfl ?_)
      refine s_nil ?_
      refine t_norm (hK19 _ _ ?_)
      refine c_cond rfl (fun h20 => ?_) (fun h20 => ?_)
      · -- (cap : Int) < (n : Int) + (1 : Int)
        exfalso; omega
      · -- not: (cap : Int) < (n : Int) + (1 : Int)
        refine wp_skip ?_
        refine t_norm (hK18 _ _ ?_)
        refine wp_seq_k fun K21 hK21 => ?_
        refine c_region ?_
        refine s_op (o_move (v := (.slice (some ⟨g, 0, none⟩) n cap)) rfl ?_)
        refine s_op (o_move (v := (.int .i64 (n : Int))) rfl ?_)
        refine s_op (o_move (v := (.int .i64 (1 : Int))) rfl ?_)
        refine s_op (o_add (a := (n : Int)) (b := (1 : Int)) rfl rfl (w64 (by omega) (by omega)) ?_)
        obtain ⟨o22, n23, c24, ho28, hn25, hc26⟩ := rsl_ex3 0 1 (i := 0) (j := (n : Int) + (1 : Int)) (m := ((cap : Nat) : Int)) (by omega) (by omega) (by omega)
        refine s_op (o_rsl2 (i := 0) (j := (n : Int) + (1 : Int)) (m := ((cap : Nat) : Int)) Try.underlying28 ti3 rfl (bounds_h (n := n) (cap := cap) (j := (n : Int) + (1 : Int)) (by omega) (by omega)) (by omega) (by omega) (by omega) (off3 ho28 (by omega)) hn25 hc26 ?_)
        refine s_op (o_assign (v := (.slice (some ⟨g, o22, none⟩) n23 c24)) rfl ?_)
        refine s_nil ?_
        refine t_norm (hK21 _ _ ?_)
        refine wp_seq_k fun K29 hK29 => ?_
        refine wp_seq_k fun K30 hK30 => ?_
        refine c_region ?_
        refine s_op (o_move (v := (.slice (some ⟨bu, 0, none⟩) 1 1)) rfl ?_)
        refine s_op (o_move (v := (.slice (some ⟨g, o22, none⟩) n23 c24)) rfl ?_)
        refine s_op (o_move (v := (.int .i64 (i : Int))) rfl ?_)
        refine s_op (o_move (v := (.int .i64 (1 : Int))) rfl ?_)
        refine s_op (o_add (a := (i : Int)) (b := (1 : Int)) rfl rfl (w64 (by omega) (by omega)) ?_)
        obtain ⟨o31, n32, c33, ho37, hn34, hc35⟩ := rsl_ex3 o22 1 (i := (i : Int) + (1 : Int)) (j := ((n23 : Nat) : Int)) (m := ((c24 : Nat) : Int)) (by omega) (by omega) (by omega)
        refine s_op (o_rsl2 (i := (i : Int) + (1 : Int)) (j := ((n23 : Nat) : Int)) (m := ((c24 : Nat) : Int)) Try.underlying28 ti3 rfl (bounds_l (n := n23) (cap := c24) (i := (i : Int) + (1 : Int)) (by omega) (by omega)) (by omega) (by omega) (by omega) (off3 ho37 (by omega)) hn34 hc35 ?_)
        refine s_op (o_overlaps (tR := 4) Try.func54 (by kernel_rfl) (by kernel_rfl) (by kernel_rfl) (by kernel_rfl) Try.underlying28 ti3 rfl rfl (hH.front 1 rfl) (by omega) rfl ?_)
        refine s_op (o_not rfl ?_)
        simp only [Bool.not_true, Bool.not_false]
        refine s_nil ?_
        refine t_norm (hK30 _ _ ?_)
        refine c_true rfl rfl ?_
        refine wp_seq_k fun K38 hK38 => ?_
        obtain ⟨o39, n40, c41, ho45, hn42, hc43⟩ := rsl_ex3 o22 1 (i := (i : Int) + (1 : Int)) (j := ((n23 : Nat) : Int)) (m := ((c24 : Nat) : Int)) (by omega) (by omega) (by omega)
        obtain ⟨o46, n47, c48, ho52, hn49, hc50⟩ := rsl_ex3 o22 1 (i := (i : Int)) (j := ((n23 : Nat) : Int)) (m := ((c24 : Nat) : Int)) (by omega) (by omega) (by omega)
        have hH58 : Has E w [[Hp.one bu (.cells cu 3 (0, 0))], R, [Hp.one g (.cells c 3 (0, 0))]] := (((hH.front 0 rfl).front 2 rfl).front 2 rfl).first 3 rfl
        refine c_flow [[Hp.one bu (.cells cu 3 (0, 0))], R] (fun i_ => match i_ with | 8 => [Hp.one g (.cells c 3 (0, 0))] | _ => []) (fun i_ v_ h_ => match i_ with | 0 => v_ = (.slice (some ⟨g, o22, none⟩) n23 c24) ∧ h_ = [] | 1 => v_ = (.int .i64 (i : Int)) ∧ h_ = [] | 2 => v_ = (.int .i64 (1 : Int)) ∧ h_ = [] | 3 => v_ = (.int .i64 ((i : Int) + (1 : Int))) ∧ h_ = [] | 4 => v_ = (.slice (some ⟨g, o39, none⟩) n40 c41) ∧ h_ = [] | 5 => v_ = (.slice (some ⟨g, o22, none⟩) n23 c24) ∧ h_ = [] | 6 => v_ = (.int .i64 (i : Int)) ∧ h_ = [] | 7 => v_ = (.slice (some ⟨g, o46, none⟩) n47 c48) ∧ h_ = [] | 8 => ∃ (c53 : Array Value), v_ = (.int .i64 ((min n47 n40 : Nat) : Int)) ∧ h_ = [Hp.one g (.cells c53 3 (0, 0))] ∧ (c53.size = c.size) ∧ (c53.toList = (if 0 < min n47 n40 then c.toList.take o39 ++ ((c.toList.drop o46).take (n47 * 1)).take (min n47 n40 * 1) ++ c.toList.drop (o39 + min n47 n40 * 1) else c.toList)) | _ => True) mixed (by kernel_rfl) (flow_has (cs := [[Hp.one g (.cells c 3 (0, 0))]]) hH58 rfl) ?_ ?_
        · intro i_ o_ ho_ r' w' G hs_ ht
          match i_, ho_ with
          | 0, ho_ =>
            obtain rfl := Option.some.inj ho_
            have e0 : r' 0 = (.slice (some ⟨g, o22, none⟩) n23 c24) := ht.was 0 (by kernel_rfl)
            have hG := ht.has.drop
            refine o_move (v := (.slice (some ⟨g, o22, none⟩) n23 c24)) e0 ?_
            exact ⟨_, ⟨rfl, rfl⟩, hG⟩
          | 1, ho_ =>
            obtain rfl := Option.some.inj ho_
            have e1 : r' 1 = (.int .i64 (i : Int)) := ht.was 1 (by kernel_rfl)
            have hG := ht.has.drop
            refine o_move (v := (.int .i64 (i : Int))) e1 ?_
            exact ⟨_, ⟨rfl, rfl⟩, hG⟩
          | 2, ho_ =>
            obtain rfl := Option.some.inj ho_
            have e7 : r' 7 = (.int .i64 (1 : Int)) := ht.was 7 (by kernel_rfl)
            have hG := ht.has.drop
            refine o_move (v := (.int .i64 (1 : Int))) e7 ?_
            exact ⟨_, ⟨rfl, rfl⟩, hG⟩
          | 3, ho_ =>
            obtain rfl := Option.some.inj ho_
            obtain ⟨e70, eh1⟩ := (ht.done 1 _ rfl rfl).1
            obtain ⟨e71, eh2⟩ := (ht.done 2 _ rfl rfl).1
            have hG := ht.has.drop
            refine o_add (a := (i : Int)) (b := (1 : Int)) e70 e71 (w64 (by omega) (by omega)) ?_
            exact ⟨_, ⟨rfl, rfl⟩, hG⟩
          | 4, ho_ =>
            obtain rfl := Option.some.inj ho_
            obtain ⟨e69, eh0⟩ := (ht.done 0 _ rfl rfl).1
            obtain ⟨e72, eh3⟩ := (ht.done 3 _ rfl rfl).1
            have hG := ht.has.drop
            refine o_rsl2 (i := (i : Int) + (1 : Int)) (j := ((n23 : Nat) : Int)) (m := ((c24 : Nat) : Int)) Try.underlying28 ti3 e69 (fun w => by simp only [Option.map_some, Option.map_none, show ev 95 r' (.tmp 72) = _ from e72]; exact bounds_l (n := n23) (cap := c24) (i := (i : Int) + (1 : Int)) (by omega) (by omega) w) (by omega) (by omega) (by omega) (off3 ho45 (by omega)) hn42 hc43 ?_
            exact ⟨_, ⟨rfl, rfl⟩, hG⟩
          | 5, ho_ =>
            obtain rfl := Option.some.inj ho_
            have e0 : r' 0 = (.slice (some ⟨g, o22, none⟩) n23 c24) := ht.was 0 (by kernel_rfl)
            have hG := ht.has.drop
            refine o_move (v := (.slice (some ⟨g, o22, none⟩) n23 c24)) e0 ?_
            exact ⟨_, ⟨rfl, rfl⟩, hG⟩
          | 6, ho_ =>
            obtain rfl := Option.some.inj ho_
            have e1 : r' 1 = (.int .i64 (i : Int)) := ht.was 1 (by kernel_rfl)
            have hG := ht.has.drop
            refine o_move (v := (.int .i64 (i : Int))) e1 ?_
            exact ⟨_, ⟨rfl, rfl⟩, hG⟩
          | 7, ho_ =>
            obtain rfl := Option.some.inj ho_
            obtain ⟨e74, eh5⟩ := (ht.done 5 _ rfl rfl).1
            obtain ⟨e75, eh6⟩ := (ht.done 6 _ rfl rfl).1
            have hG := ht.has.drop
            refine o_rsl2 (i := (i : Int)) (j := ((n23 : Nat) : Int)) (m := ((c24 : Nat) : Int)) Try.underlying28 ti3 e74 (fun w => by simp only [Option.map_some, Option.map_none, show ev 95 r' (.tmp 75) = _ from e75]; exact bounds_l (n := n23) (cap := c24) (i := (i : Int)) (by omega) (by omega) w) (by omega) (by omega) (by omega) (off3 ho52 (by omega)) hn49 hc50 ?_
            exact ⟨_, ⟨rfl, rfl⟩, hG⟩
          | 8, ho_ =>
            obtain rfl := Option.some.inj ho_
            obtain ⟨e73, eh4⟩ := (ht.done 4 _ rfl rfl).1
            obtain ⟨e76, eh7⟩ := (ht.done 7 _ rfl rfl).1
            have hG := ht.has
            refine o_copy (ds := (c.toList.drop o46).take (n47 * 1)) Try.underlying28 ti3 e73 e76 (sl_raw (b := g) (o := o46) (sz := 1) (n := n47) (cap := c48) (c := c) (e := 3) (g := (0, 0)) (by omega) (by omega) (by omega)) hG sub_l (by omega) (fun u hu => by exact h1 u (mem_part hu (by omega))) fun c53 w54 hz57 hc55 hH56 => ?_
            exact ⟨_, ⟨c53, rfl, rfl, hz57, hc55⟩, hH56⟩
          | i_ + 9, ho_ => exact absurd ho_ (by simp)
        · intro vs58 hs59 w60 hT61 hH62
          obtain ⟨e0_, eh0_⟩ := hT61 0 _ rfl
          obtain ⟨e1_, eh1_⟩ := hT61 1 _ rfl
          obtain ⟨e2_, eh2_⟩ := hT61 2 _ rfl
          obtain ⟨e3_, eh3_⟩ := hT61 3 _ rfl
          obtain ⟨e4_, eh4_⟩ := hT61 4 _ rfl
          obtain ⟨e5_, eh5_⟩ := hT61 5 _ rfl
          obtain ⟨e6_, eh6_⟩ := hT61 6 _ rfl
          obtain ⟨e7_, eh7_⟩ := hT61 7 _ rfl
          obtain ⟨c53, e8_, eh8_, hz57, hc55⟩ := hT61 8 _ rfl
          have hH63 : Has E w60 ([[Hp.one bu (.cells cu 3 (0, 0))], R] ++ [[Hp.one g (.cells c53 3 (0, 0))]]) := flow_back (cs := [[Hp.one g (.cells c53 3 (0, 0))]]) hH62 (by show (hs59 0 ++ (hs59 1 ++ (hs59 2 ++ (hs59 3 ++ (hs59 4 ++ (hs59 5 ++ (hs59 6 ++ (hs59 7 ++ (hs59 8 ++ []))))))))) = _; rw [eh0_, eh1_, eh2_, eh3_, eh4_, eh5_, eh6_, eh7_, eh8_]; rfl)
          rw [show Go.Q.fr 95 (puts vs58 _ 0 _) = Go.Q.fr 95 (base [(.slice (some ⟨g, o22, none⟩) n23 c24), (.int .i64 (i : Int)), (.slice (some ⟨bu, 0, none⟩) 1 1), undef, undef, undef, (.slice none 0 0), (.int .i64 (1 : Int)), (.int .i64 (n : Int)), undef, (.slice (some ⟨g, 0, none⟩) n cap), (.int .i64 (i : Int)), (.slice (some ⟨g, o3, none⟩) n4 c5), (.slice (some ⟨bu, 0, none⟩) 1 1), (.int .i64 (1 : Int)), (.int .i64 (1 : Int)), (.bool (decide ((1 : Int) = 0))), undef, (.slice (some ⟨g, 0, none⟩) n cap), (.int .i64 (n : Int)), (.int .i64 (i : Int)), (.int .i64 (n : Int)), (.bool (decide ((i : Int) = (n : Int)))), undef, undef, undef, (.int .i64 (n : Int)), (.int .i64 (1 : Int)), (.int .i64 ((n : Int) + (1 : Int))), (.slice (some ⟨g, 0, none⟩) n cap), (.int .i64 (cap : Int)), (.bool (decide ((cap : Int) < (n : Int) + (1 : Int)))), undef, undef, undef, undef, undef, undef, undef, undef, undef, undef, undef, undef, undef, undef, undef, undef, undef, undef, undef, undef, undef, undef, undef, undef, (.slice (some ⟨g, 0, none⟩) n cap), (.int .i64 (n : Int)), (.int .i64 (1 : Int)), (.int .i64 ((n : Int) + (1 : Int))), (.slice (some ⟨g, o22, none⟩) n23 c24), (.slice (some ⟨bu, 0, none⟩) 1 1), (.slice (some ⟨g, o22, none⟩) n23 c24), (.int .i64 (i : Int)), (.int .i64 (1 : Int)), (.int .i64 ((i : Int) + (1 : Int))), (.slice (some ⟨g, o31, none⟩) n32 c33), (.bool false), (.bool true), (.slice (some ⟨g, o22, none⟩) n23 c24), (.int .i64 (i : Int)), (.int .i64 (1 : Int)), (.int .i64 ((i : Int) + (1 : Int))), (.slice (some ⟨g, o39, none⟩) n40 c41), (.slice (some ⟨g, o22, none⟩) n23 c24), (.int .i64 (i : Int)), (.slice (some ⟨g, o46, none⟩) n47 c48), (.int .i64 ((min n47 n40 : Nat) : Int)), undef, undef, undef, undef, undef, undef, undef, undef, undef, undef, undef, undef, undef, undef, undef, undef, undef]) from fr_lit (by show [(.slice (some ⟨g, o22, none⟩) n23 c24), (.int .i64 (i : Int)), (.slice (some ⟨bu, 0, none⟩) 1 1), undef, undef, undef, (.slice none 0 0), (.int .i64 (1 : Int)), (.int .i64 (n : Int)), undef, (.slice (some ⟨g, 0, none⟩) n cap), (.int .i64 (i : Int)), (.slice (some ⟨g, o3, none⟩) n4 c5), (.slice (some ⟨bu, 0, none⟩) 1 1), (.int .i64 (1 : Int)), (.int .i64 (1 : Int)), (.bool (decide ((1 : Int) = 0))), undef, (.slice (some ⟨g, 0, none⟩) n cap), (.int .i64 (n : Int)), (.int .i64 (i : Int)), (.int .i64 (n : Int)), (.bool (decide ((i : Int) = (n : Int)))), undef, undef, undef, (.int .i64 (n : Int)), (.int .i64 (1 : Int)), (.int .i64 ((n : Int) + (1 : Int))), (.slice (some ⟨g, 0, none⟩) n cap), (.int .i64 (cap : Int)), (.bool (decide ((cap : Int) < (n : Int) + (1 : Int)))), undef, undef, undef, undef, undef, undef, undef, undef, undef, undef, undef, undef, undef, undef, undef, undef, undef, undef, undef, undef, undef, undef, undef, undef, (.slice (some ⟨g, 0, none⟩) n cap), (.int .i64 (n : Int)), (.int .i64 (1 : Int)), (.int .i64 ((n : Int) + (1 : Int))), (.slice (some ⟨g, o22, none⟩) n23 c24), (.slice (some ⟨bu, 0, none⟩) 1 1), (.slice (some ⟨g, o22, none⟩) n23 c24), (.int .i64 (i : Int)), (.int .i64 (1 : Int)), (.int .i64 ((i : Int) + (1 : Int))), (.slice (some ⟨g, o31, none⟩) n32 c33), (.bool false), (.bool true), vs58 0, vs58 1, vs58 2, vs58 3, vs58 4, vs58 5, vs58 6, vs58 7, vs58 8, undef, undef, undef, undef, undef, undef, undef, undef, undef, undef, undef, undef, undef, undef, undef, undef, undef] = _; rw [e0_, e1_, e2_, e3_, e4_, e5_, e6_, e7_, e8_])]
          refine t_norm (hK38 _ _ ?_)
          refine wp_seq_k fun K64 hK64 => ?_
          refine c_region ?_
          refine s_op (o_move (v := (.slice (some ⟨g, o22, none⟩) n23 c24)) rfl ?_)
          refine s_op (o_move (v := (.int .i64 (i : Int))) rfl ?_)
          obtain ⟨o65, n66, c67, ho71, hn68, hc69⟩ := rsl_ex3 o22 1 (i := (i : Int)) (j := ((n23 : Nat) : Int)) (m := ((c24 : Nat) : Int)) (by omega) (by omega) (by omega)
          refine s_op (o_rsl2 (i := (i : Int)) (j := ((n23 : Nat) : Int)) (m := ((c24 : Nat) : Int)) Try.underlying28 ti3 rfl (bounds_l (n := n23) (cap := c24) (i := (i : Int)) (by omega) (by omega)) (by omega) (by omega) (by omega) (off3 ho71 (by omega)) hn68 hc69 ?_)
          refine s_op (o_move (v := (.slice (some ⟨bu, 0, none⟩) 1 1)) rfl ?_)
          refine s_op (o_copy (ds := (cu.toList.drop 0).take (1 * 1)) Try.underlying28 ti3 rfl rfl (sl_raw (b := bu) (o := 0) (sz := 1) (n := 1) (cap := 1) (c := cu) (e := 3) (g := (0, 0)) (by omega) (by omega) (by omega)) (hH63.front 2 rfl) (seg_sub 1 rfl) (by omega) (fun u hu => by exact h2 u (List.mem_of_mem_drop (List.mem_of_mem_take (List.mem_of_mem_take hu)))) fun c72 w73 hz76 hc74 hH75 => ?_)
          refine s_nil ?_
          refine t_norm (hK64 _ _ ?_)
          refine wp_seq_k fun K77 hK77 => ?_
          refine c_region ?_
          refine s_op (o_move (v := (.slice (some ⟨g, o22, none⟩) n23 c24)) rfl ?_)
          refine s_op (o_assign (v := (.slice (some ⟨g, o22, none⟩) n23 c24)) rfl ?_)
          refine s_nil ?_
          refine t_norm (hK77 _ _ ?_)
          refine wp_ret ?_
          refine t_ret (c_ret1 Try.results50 (v := (.slice (some ⟨g, o22, none⟩) n23 c24)) rfl ?_)
          have hH78 : Has E w73 [[Hp.one g (.cells c72 3 (0, 0))], R] := ((hH75.front 2 rfl).front 1 rfl).first 2 rfl
          rw [if_pos (by omega)] at hc55
          rw [if_pos (by omega)] at hc74
          refine ⟨_, _, rfl, ⟨?_, .inr ⟨g, c24, c72, by rw [show n23 = n + 1 from by omega, show (o22 : Nat) = 0 from by omega], rfl, by omega, by simp only [maxLen]; omega, by omega, ?_⟩⟩, hH78⟩
          · rw [show (n + 1) * 1 = n * 1 + 1 from by omega]; exact ins_len (by simp only [Array.length_toList]; omega) (by omega) (by simp only [Array.length_toList]; omega)
          · rw [show (n + 1) * 1 = n * 1 + 1 from by omega]; exact insB hc55 hc74 (by omega) (by omega) (by omega) (by omega) (by omega) (by omega) (by omega) (by omega) (by omega) (by simp only [Array.length_toList]; omega) (by omega) (by simp only [Array.length_toList]; omega)
end Go.Q
