/-
  Parts of a walk: what functions of the program compute, each told by a theorem.
-/
import Derived.Test.YtlaieipebmkebaaQH
import Derived.Test.YtlaieipebmkebaaQNums
import Derived.Test.YtlaieipebmkebaaQPBase
set_option linter.unusedVariables false
set_option linter.unusedSimpArgs false
namespace Go.Q
open Go.Proofs
set_option linter.unusedVariables false
set_option maxRecDepth 100000
attribute [local irreducible] wpList OK Code.wp
set_option maxHeartbeats 4000000 in
theorem ins1_room {E w : World} {R : List Hp} (g bu n cap i : Nat) (c cu : Array Value) (hH : Has E w [[Hp.one g (.cells c 3 (0, 0))], [Hp.one bu (.cells cu 3 (0, 0))], R]) (hi : i < n) (hnc : n ≤ cap) (hroom : n + 1 ≤ cap) (hcap : cap ≤ 9223372036854775807) (hcs : c.size = cap * 1) (hcu : cu.size = 1) (hbig : (n + 1) * 8 ≤ 140737488355328) (h1 : ∀ u ∈ c.toList.take (n * 1), u.oneCell' = true) (h2 : ∀ u ∈ cu.toList, u.oneCell' = true) :
    Calls Try.prog 30 #[(.slice (some ⟨g, 0, none⟩) n cap), (.int .i64 (i : Int)), (.slice (some ⟨bu, 0, none⟩) 1 1)] w fun e w' => ∃ v' hs', e = .returned v' ∧ Own 3 1 v' (n + 1) (c.toList.take (i * 1) ++ cu.toList ++ (c.toList.take (n * 1)).drop (i * 1)) hs' ∧ Has E w' [hs', R] := by
  refine c_enter (args := [(.slice (some ⟨g, 0, none⟩) n cap), (.int .i64 (i : Int)), (.slice (some ⟨bu, 0, none⟩) 1 1)]) Try.func30 rfl Try.ntmps30 (by simp) ?_
  refine wp_seq_k fun K1 hK1 => ?_
  refine c_region ?_
  refine s_op (o_assign (v := (.slice none 0 0)) rfl ?_)
  refine s_nil ?_
  refine t_norm (hK1 _ _ ?_)
  refine wp_seq_k fun K2 hK2 => ?_
  refine c_region ?_
  refine s_op (o_move (v := (.slice (some ⟨g, 0, none⟩) n cap)) rfl ?_)
  refine s_op (o_move (v := (.int .i64 (i : Int))) rfl ?_)
  obtain ⟨o3, n4, c5, ho9, hn6, hc7⟩ := rsl_ex3 0 1 (i := (i : Int)) (j := ((n : Nat) : Int)) (m := ((cap : Nat) : Int)) (by omega) (by omega) (by omega)
  refine s_op (o_rsl2 (i := (i : Int)) (j := ((n : Nat) : Int)) (m := ((cap : Nat) : Int)) Try.underlying23 ti3 rfl (bounds_l (n := n) (cap := cap) (i := (i : Int)) (by omega) (by omega)) (by omega) (by omega) (by omega) (off3 ho9 (by omega)) hn6 hc7 ?_)
  refine s_nil ?_
  refine t_norm (hK2 _ _ ?_)
  refine wp_seq_k fun K10 hK10 => ?_
  refine c_region ?_
  refine s_op (o_move (v := (.slice (some ⟨bu, 0, none⟩) 1 1)) rfl ?_)
  refine s_op (o_len Try.underlying23 rfl ?_)
  refine s_op (o_assign (v := (.int .i64 (1 : Int))) rfl ?_)
  refine s_nil ?_
  refine t_norm (hK10 _ _ ?_)
  refine wp_seq_k fun K11 hK11 => ?_
  refine wp_seq_k fun K12 hK12 => ?_
  refine c_region ?_
  refine s_op (o_move (v := (.int .i64 (1 : Int))) rfl ?_)
  refine s_op (o_eql (a := (1 : Int)) (b := 0) rfl rfl ?_)
  refine s_nil ?_
  refine t_norm (hK12 _ _ ?_)
  refine c_cond rfl (fun h13 => ?_) (fun h13 => ?_)
  · -- (1 : Int) = 0
    exfalso; omega
  · -- not: (1 : Int) = 0
    refine wp_skip ?_
    refine t_norm (hK11 _ _ ?_)
    refine wp_seq_k fun K14 hK14 => ?_
    refine c_region ?_
    refine s_op (o_move (v := (.slice (some ⟨g, 0, none⟩) n cap)) rfl ?_)
    refine s_op (o_len Try.underlying23 rfl ?_)
    refine s_op (o_assign (v := (.int .i64 (n : Int))) rfl ?_)
    refine s_nil ?_
    refine t_norm (hK14 _ _ ?_)
    refine wp_seq_k fun K15 hK15 => ?_
    refine wp_seq_k fun K16 hK16 => ?_
    refine c_region ?_
    refine s_op (o_move (v := (.int .i64 (i : Int))) rfl ?_)
    refine s_op (o_move (v := (.int .i64 (n : Int))) rfl ?_)
    refine s_op (o_eql (a := (i : Int)) (b := (n : Int)) rfl rfl ?_)
    refine s_nil ?_
    refine t_norm (hK16 _ _ ?_)
    refine c_cond rfl (fun h17 => ?_) (fun h17 => ?_)
    · -- (i : Int) = (n : Int)
      exfalso; omega
    · -- not: (i : Int) = (n : Int)
      refine wp_skip ?_
      refine t_norm (hK15 _ _ ?_)
      refine wp_seq_k fun K18 hK18 => ?_
      refine wp_seq_k fun K19 hK19 => ?_
      refine c_region ?_
      refine s_op (o_move (v := (.int .i64 (n : Int))) rfl ?_)
      refine s_op (o_move (v := (.int .i64 (1 : Int))) rfl ?_)
      refine s_op (o_add (a := (n : Int)) (b := (1 : Int)) rfl rfl (w64 (by omega) (by omega)) ?_)
      refine s_op (o_move (v := (.slice (some ⟨g, 0, none⟩) n cap)) rfl ?_)
      refine s_op (o_cap Try.underlying23 rfl ?_)
      refine s_op (o_gtr (a := (n : Int) + (1 : Int)) (b := (cap : Int)) rfl rfl ?_)
      refine s_nil ?_
      refine t_norm (hK19 _ _ ?_)
      refine c_cond rfl (fun h20 => ?_) (fun h20 => ?_)
      · -- (cap : Int) < (n : Int) + (1 : Int)
        exfalso; omega
      · -- not: (cap : Int) < (n : Int) + (1 : Int)
        refine wp_skip ?_
        refine t_norm (hK18 _ _ ?_)
        refine wp_seq_k fun K21 hK21 => ?_
        refine c_region ?_
        refine s_op (o_move (v := (.slice (some ⟨g, 0, none⟩) n cap)) rfl ?_)
        refine s_op (o_move (v := (.int .i64 (n : Int))) rfl ?_)
        refine s_op (o_move (v := (.int .i64 (1 : Int))) rfl ?_)
        refine s_op (o_add (a := (n : Int)) (b := (1 : Int)) rfl rfl (w64 (by omega) (by omega)) ?_)
        obtain ⟨o22, n23, c24, ho28, hn25, hc26⟩ := rsl_ex3 0 1 (i := 0) (j := (n : Int) + (1 : Int)) (m := ((cap : Nat) : Int)) (by omega) (by omega) (by omega)
        refine s_op (o_rsl2 (i := 0) (j := (n : Int) + (1 : Int)) (m := ((cap : Nat) : Int)) Try.underlying23 ti3 rfl (bounds_h (n := n) (cap := cap) (j := (n : Int) + (1 : Int)) (by omega) (by omega)) (by omega) (by omega) (by omega) (off3 ho28 (by omega)) hn25 hc26 ?_)
        refine s_op (o_assign (v := (.slice (some ⟨g, o22, none⟩) n23 c24)) rfl ?_)
        refine s_nil ?_
        refine t_norm (hK21 _ _ ?_)
        refine wp_seq_k fun K29 hK29 => ?_
        refine wp_seq_k fun K30 hK30 => ?_
        refine c_region ?_
        refine s_op (o_move (v := (.slice (some ⟨bu, 0, none⟩) 1 1)) rfl ?_)
        refine s_op (o_move (v := (.slice (some ⟨g, o22, none⟩) n23 c24)) rfl ?_)
        refine s_op (o_move (v := (.int .i64 (i : Int))) rfl ?_)
        refine s_op (o_move (v := (.int .i64 (1 : Int))) rfl ?_)
        refine s_op (o_add (a := (i : Int)) (b := (1 : Int)) rfl rfl (w64 (by omega) (by omega)) ?_)
        obtain ⟨o31, n32, c33, ho37, hn34, hc35⟩ := rsl_ex3 o22 1 (i := (i : Int) + (1 : Int)) (j := ((n23 : Nat) : Int)) (m := ((c24 : Nat) : Int)) (by omega) (by omega) (by omega)
        refine s_op (o_rsl2 (i := (i : Int) + (1 : Int)) (j := ((n23 : Nat) : Int)) (m := ((c24 : Nat) : Int)) Try.underlying23 ti3 rfl (bounds_l (n := n23) (cap := c24) (i := (i : Int) + (1 : Int)) (by omega) (by omega)) (by omega) (by omega) (by omega) (off3 ho37 (by omega)) hn34 hc35 ?_)
        refine s_op (o_overlaps (tR := 4) Try.func34 (by kernel_rfl) (by kernel_rfl) (by kernel_rfl) (by kernel_rfl) Try.underlying23 ti3 rfl rfl (hH.front 1 rfl) (by omega) rfl ?_)
        refine s_op (o_not rfl ?_)
        refine s_nil ?_
        refine t_norm (hK30 _ _ ?_)
        refine c_true rfl rfl ?_
        refine wp_seq_k fun K38 hK38 => ?_
        obtain ⟨o39, n40, c41, ho45, hn42, hc43⟩ := rsl_ex3 o22 1 (i := (i : Int) + (1 : Int)) (j := ((n23 : Nat) : Int)) (m := ((c24 : Nat) : Int)) (by omega) (by omega) (by omega)
        obtain ⟨o46, n47, c48, ho52, hn49, hc50⟩ := rsl_ex3 o22 1 (i := (i : Int)) (j := ((n23 : Nat) : Int)) (m := ((c24 : Nat) : Int)) (by omega) (by omega) (by omega)
        have hH58 : Has E w [[Hp.one bu (.cells cu 3 (0, 0))], R, [Hp.one g (.cells c 3 (0, 0))]] := ((hH.front 2 rfl).front 2 rfl).first 3 rfl
        refine c_flow [[Hp.one bu (.cells cu 3 (0, 0))], R] (fun i_ => match i_ with | 8 => [Hp.one g (.cells c 3 (0, 0))] | _ => []) (fun i_ v_ h_ => match i_ with | 0 => v_ = (.slice (some ⟨g, o22, none⟩) n23 c24) ∧ h_ = [] | 1 => v_ = (.int .i64 (i : Int)) ∧ h_ = [] | 2 => v_ = (.int .i64 (1 : Int)) ∧ h_ = [] | 3 => v_ = (.int .i64 ((i : Int) + (1 : Int))) ∧ h_ = [] | 4 => v_ = (.slice (some ⟨g, o39, none⟩) n40 c41) ∧ h_ = [] | 5 => v_ = (.slice (some ⟨g, o22, none⟩) n23 c24) ∧ h_ = [] | 6 => v_ = (.int .i64 (i : Int)) ∧ h_ = [] | 7 => v_ = (.slice (some ⟨g, o46, none⟩) n47 c48) ∧ h_ = [] | 8 => ∃ (c53 : Array Value), v_ = (.int .i64 ((min n47 n40 : Nat) : Int)) ∧ h_ = [Hp.one g (.cells c53 3 (0, 0))] ∧ (c53.size = c.size) ∧ (c53.toList = (if 0 < min n47 n40 then c.toList.take o39 ++ ((c.toList.drop o46).take (n47 * 1)).take (min n47 n40 * 1) ++ c.toList.drop (o39 + min n47 n40 * 1) else c.toList)) | _ => True) mixed (by kernel_rfl) (flow_has (cs := [[Hp.one g (.cells c 3 (0, 0))]]) hH58 rfl) ?_ ?_
        · intro i_ o_ ho_ r' w' G hs_ ht
          match i_, ho_ with
          | 0, ho_ =>
            obtain rfl := Option.some.inj ho_
            have e0 : r' 0 = (.slice (some ⟨g, o22, none⟩) n23 c24) := ht.was 0 (by kernel_rfl)
            have hG := ht.has.drop
            refine o_move (v := (.slice (some ⟨g, o22, none⟩) n23 c24)) e0 ?_
            exact ⟨_, ⟨rfl, rfl⟩, hG⟩
          | 1, ho_ =>
            obtain rfl := Option.some.inj ho_
            have e1 : r' 1 = (.int .i64 (i : Int)) := ht.was 1 (by kernel_rfl)
            have hG := ht.has.drop
            refine o_move (v := (.int .i64 (i : Int))) e1 ?_
            exact ⟨_, ⟨rfl, rfl⟩, hG⟩
          | 2, ho_ =>
            obtain rfl := Option.some.inj ho_
            have e7 : r' 7 = (.int .i64 (1 : Int)) := ht.was 7 (by kernel_rfl)
            have hG := ht.has.drop
            refine o_move (v := (.int .i64 (1 : Int))) e7 ?_
            exact ⟨_, ⟨rfl, rfl⟩, hG⟩
          | 3, ho_ =>
            obtain rfl := Option.some.inj ho_
            obtain ⟨e70, eh1⟩ := (ht.done 1 _ rfl rfl).1
            obtain ⟨e71, eh2⟩ := (ht.done 2 _ rfl rfl).1
            have hG := ht.has.drop
            refine o_add (a := (i : Int)) (b := (1 : Int)) e70 e71 (w64 (by omega) (by omega)) ?_
            exact ⟨_, ⟨rfl, rfl⟩, hG⟩
          | 4, ho_ =>
            obtain rfl := Option.some.inj ho_
            obtain ⟨e69, eh0⟩ := (ht.done 0 _ rfl rfl).1
            obtain ⟨e72, eh3⟩ := (ht.done 3 _ rfl rfl).1
            have hG := ht.has.drop
            refine o_rsl2 (i := (i : Int) + (1 : Int)) (j := ((n23 : Nat) : Int)) (m := ((c24 : Nat) : Int)) Try.underlying23 ti3 e69 (fun w => by simp only [Option.map_some, Option.map_none, show ev 95 r' (.tmp 72) = _ from e72]; exact bounds_l (n := n23) (cap := c24) (i := (i : Int) + (1 : Int)) (by omega) (by omega) w) (by omega) (by omega) (by omega) (off3 ho45 (by omega)) hn42 hc43 ?_
            exact ⟨_, ⟨rfl, rfl⟩, hG⟩
          | 5, ho_ =>
            obtain rfl := Option.some.inj ho_
            have e0 : r' 0 = (.slice (some ⟨g, o22, none⟩) n23 c24) := ht.was 0 (by kernel_rfl)
            have hG := ht.has.drop
            refine o_move (v := (.slice (some ⟨g, o22, none⟩) n23 c24)) e0 ?_
            exact ⟨_, ⟨rfl, rfl⟩, hG⟩
          | 6, ho_ =>
            obtain rfl := Option.some.inj ho_
            have e1 : r' 1 = (.int .i64 (i : Int)) := ht.was 1 (by kernel_rfl)
            have hG := ht.has.drop
            refine o_move (v := (.int .i64 (i : Int))) e1 ?_
            exact ⟨_, ⟨rfl, rfl⟩, hG⟩
          | 7, ho_ =>
            obtain rfl := Option.some.inj ho_
            obtain ⟨e74, eh5⟩ := (ht.done 5 _ rfl rfl).1
            obtain ⟨e75, eh6⟩ := (ht.done 6 _ rfl rfl).1
            have hG := ht.has.drop
            refine o_rsl2 (i := (i : Int)) (j := ((n23 : Nat) : Int)) (m := ((c24 : Nat) : Int)) Try.underlying23 ti3 e74 (fun w => by simp only [Option.map_some, Option.map_none, show ev 95 r' (.tmp 75) = _ from e75]; exact bounds_l (n := n23) (cap := c24) (i := (i : Int)) (by omega) (by omega) w) (by omega) (by omega) (by omega) (off3 ho52 (by omega)) hn49 hc50 ?_
            exact ⟨_, ⟨rfl, rfl⟩, hG⟩
          | 8, ho_ =>
            obtain rfl := Option.some.inj ho_
            obtain ⟨e73, eh4⟩ := (ht.done 4 _ rfl rfl).1
            obtain ⟨e76, eh7⟩ := (ht.done 7 _ rfl rfl).1
            have hG := ht.has
            refine o_copy (ds := (c.toList.drop o46).take (n47 * 1)) Try.underlying23 ti3 e73 e76 (sl_raw (b := g) (o := o46) (sz := 1) (n := n47) (cap := c48) (c := c) (e := 3) (g := (0, 0)) (by omega) (by omega) (by omega)) hG sub_l (by omega) (fun u hu => by exact h1 u (mem_part hu (by omega))) fun c53 w54 hz57 hc55 hH56 => ?_
            exact ⟨_, ⟨c53, rfl, rfl, hz57, hc55⟩, hH56⟩
          | i_ + 9, ho_ => exact absurd ho_ (by simp)
        · intro vs58 hs59 w60 hT61 hH62
          obtain ⟨e0_, eh0_⟩ := hT61 0 _ rfl
          obtain ⟨e1_, eh1_⟩ := hT61 1 _ rfl
          obtain ⟨e2_, eh2_⟩ := hT61 2 _ rfl
          obtain ⟨e3_, eh3_⟩ := hT61 3 _ rfl
          obtain ⟨e4_, eh4_⟩ := hT61 4 _ rfl
          obtain ⟨e5_, eh5_⟩ := hT61 5 _ rfl
          obtain ⟨e6_, eh6_⟩ := hT61 6 _ rfl
          obtain ⟨e7_, eh7_⟩ := hT61 7 _ rfl
          obtain ⟨c53, e8_, eh8_, hz57, hc55⟩ := hT61 8 _ rfl
          have hH63 : Has E w60 ([[Hp.one bu (.cells cu 3 (0, 0))], R] ++ [[Hp.one g (.cells c53 3 (0, 0))]]) := flow_back (cs := [[Hp.one g (.cells c53 3 (0, 0))]]) hH62 (by show (hs59 0 ++ (hs59 1 ++ (hs59 2 ++ (hs59 3 ++ (hs59 4 ++ (hs59 5 ++ (hs59 6 ++ (hs59 7 ++ (hs59 8 ++ []))))))))) = _; rw [eh0_, eh1_, eh2_, eh3_, eh4_, eh5_, eh6_, eh7_, eh8_]; rfl)
          generalize hr65 : puts vs58 _ 0 _ = r64
          have e66_0 : r64 0 = (.slice (some ⟨g, o22, none⟩) n23 c24) := by rw [← hr65]; exact rfl
          have e66_1 : r64 1 = (.int .i64 (i : Int)) := by rw [← hr65]; exact rfl
          have e66_2 : r64 2 = (.slice (some ⟨bu, 0, none⟩) 1 1) := by rw [← hr65]; exact rfl
          have e66_6 : r64 6 = (.slice none 0 0) := by rw [← hr65]; exact rfl
          have e66_7 : r64 7 = (.int .i64 (1 : Int)) := by rw [← hr65]; exact rfl
          have e66_8 : r64 8 = (.int .i64 (n : Int)) := by rw [← hr65]; exact rfl
          have e66_16 : r64 16 = (.bool (decide ((1 : Int) = 0))) := by rw [← hr65]; exact rfl
          have e66_22 : r64 22 = (.bool (decide ((i : Int) = (n : Int)))) := by rw [← hr65]; exact rfl
          have e66_31 : r64 31 = (.bool (decide ((cap : Int) < (n : Int) + (1 : Int)))) := by rw [← hr65]; exact rfl
          have e66_68 : r64 68 = (.bool true) := by rw [← hr65]; exact rfl
          refine t_norm (hK38 _ _ ?_)
          refine wp_seq_k fun K67 hK67 => ?_
          refine c_region ?_
          refine s_op (o_move (v := (.slice (some ⟨g, o22, none⟩) n23 c24)) e66_0 ?_)
          refine s_op (o_move (v := (.int .i64 (i : Int))) e66_1 ?_)
          obtain ⟨o68, n69, c70, ho74, hn71, hc72⟩ := rsl_ex3 o22 1 (i := (i : Int)) (j := ((n23 : Nat) : Int)) (m := ((c24 : Nat) : Int)) (by omega) (by omega) (by omega)
          refine s_op (o_rsl2 (i := (i : Int)) (j := ((n23 : Nat) : Int)) (m := ((c24 : Nat) : Int)) Try.underlying23 ti3 rfl (bounds_l (n := n23) (cap := c24) (i := (i : Int)) (by omega) (by omega)) (by omega) (by omega) (by omega) (off3 ho74 (by omega)) hn71 hc72 ?_)
          refine s_op (o_move (v := (.slice (some ⟨bu, 0, none⟩) 1 1)) e66_2 ?_)
          refine s_op (o_copy (ds := (cu.toList.drop 0).take (1 * 1)) Try.underlying23 ti3 rfl rfl (sl_raw (b := bu) (o := 0) (sz := 1) (n := 1) (cap := 1) (c := cu) (e := 3) (g := (0, 0)) (by omega) (by omega) (by omega)) (hH63.front 2 rfl) (seg_sub 1 rfl) (by omega) (fun u hu => by exact h2 u (List.mem_of_mem_drop (List.mem_of_mem_take (List.mem_of_mem_take hu)))) fun c75 w76 hz79 hc77 hH78 => ?_)
          refine s_nil ?_
          refine t_norm (hK67 _ _ ?_)
          refine wp_seq_k fun K80 hK80 => ?_
          refine c_region ?_
          refine s_op (o_move (v := (.slice (some ⟨g, o22, none⟩) n23 c24)) e66_0 ?_)
          refine s_op (o_assign (v := (.slice (some ⟨g, o22, none⟩) n23 c24)) rfl ?_)
          refine s_nil ?_
          refine t_norm (hK80 _ _ ?_)
          refine wp_ret ?_
          refine t_ret (c_ret1 Try.results30  (v := (.slice (some ⟨g, o22, none⟩) n23 c24)) rfl ?_)
          have hH81 : Has E w76 [[Hp.one g (.cells c75 3 (0, 0))], R] := ((hH78.front 2 rfl).front 1 rfl).first 2 rfl
          rw [if_pos (by omega)] at hc55
          rw [if_pos (by omega)] at hc77
          refine ⟨_, _, rfl, ⟨?_, .inr ⟨g, c24, c75, by rw [show n23 = n + 1 from by omega, show (o22 : Nat) = 0 from by omega], rfl, by omega, by simp only [maxLen]; omega, by omega, ?_⟩⟩, hH81⟩
          · rw [show (n + 1) * 1 = n * 1 + 1 from by omega]; exact ins_len (by simp only [Array.length_toList]; omega) (by omega) (by simp only [Array.length_toList]; omega)
          · rw [show (n + 1) * 1 = n * 1 + 1 from by omega]; exact insB hc55 hc77 (by omega) (by omega) (by omega) (by omega) (by omega) (by omega) (by omega) (by omega) (by omega) (by simp only [Array.length_toList]; omega) (by omega) (by simp only [Array.length_toList]; omega)
end Go.Q
