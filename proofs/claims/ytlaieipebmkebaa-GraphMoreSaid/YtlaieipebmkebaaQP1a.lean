/-
  Parts of a walk: what functions of the program compute, each told by a theorem.
-/
import Derived.Test.YtlaieipebmkebaaQH
import Derived.Test.YtlaieipebmkebaaQNums
import Derived.Test.YtlaieipebmkebaaQPBase
set_option linter.unusedVariables false
set_option linter.unusedSimpArgs false
namespace Go.Q
open Go.Proofs
set_option linter.unusedVariables false
set_option maxRecDepth 100000
attribute [local irreducible] wpList OK Code.wp
set_option maxHeartbeats 4000000 in
theorem ins1_grow {E w : World} {R : List Hp} (g bu n cap i : Nat) (c cu : Array Value) (hH : Has E w [[Hp.one g (.cells c 3 (0, 0))], [Hp.one bu (.cells cu 3 (0, 0))], R]) (hi : i < n) (hnc : n ≤ cap) (hroom : cap < n + 1) (hcap : cap ≤ 9223372036854775807) (hcs : c.size = cap * 1) (hcu : cu.size = 1) (hbig : (n + 1) * 8 ≤ 140737488355328) (h1 : ∀ u ∈ c.toList.take (n * 1), u.oneCell' = true) (h2 : ∀ u ∈ cu.toList, u.oneCell' = true) :
    Calls Try.prog 30 #[(.slice (some ⟨g, 0, none⟩) n cap), (.int .i64 (i : Int)), (.slice (some ⟨bu, 0, none⟩) 1 1)] w fun e w' => ∃ v' hs', e = .returned v' ∧ Own 3 1 v' (n + 1) (c.toList.take (i * 1) ++ cu.toList ++ (c.toList.take (n * 1)).drop (i * 1)) hs' ∧ Has E w' [hs', R] := by
  refine c_enter (args := [(.slice (some ⟨g, 0, none⟩) n cap), (.int .i64 (i : Int)), (.slice (some ⟨bu, 0, none⟩) 1 1)]) Try.func30 rfl Try.ntmps30 (by simp) ?_
  refine wp_seq_k fun K1 hK1 => ?_
  refine c_region ?_
  refine s_op (o_assign (v := (.slice none 0 0)) rfl ?_)
  refine s_nil ?_
  refine t_norm (hK1 _ _ ?_)
  refine wp_seq_k fun K2 hK2 => ?_
  refine c_region ?_
  refine s_op (o_move (v := (.slice (some ⟨g, 0, none⟩) n cap)) rfl ?_)
  refine s_op (o_move (v := (.int .i64 (i : Int))) rfl ?_)
  obtain ⟨o3, n4, c5, ho9, hn6, hc7⟩ := rsl_ex3 0 1 (i := (i : Int)) (j := ((n : Nat) : Int)) (m := ((cap : Nat) : Int)) (by omega) (by omega) (by omega)
  refine s_op (o_rsl2 (i := (i : Int)) (j := ((n : Nat) : Int)) (m := ((cap : Nat) : Int)) Try.underlying23 ti3 rfl (bounds_l (n := n) (cap := cap) (i := (i : Int)) (by omega) (by omega)) (by omega) (by omega) (by omega) (off3 ho9 (by omega)) hn6 hc7 ?_)
  refine s_nil ?_
  refine t_norm (hK2 _ _ ?_)
  refine wp_seq_k fun K10 hK10 => ?_
  refine c_region ?_
  refine s_op (o_move (v := (.slice (some ⟨bu, 0, none⟩) 1 1)) rfl ?_)
  refine s_op (o_len Try.underlying23 rfl ?_)
  refine s_op (o_assign (v := (.int .i64 (1 : Int))) rfl ?_)
  refine s_nil ?_
  refine t_norm (hK10 _ _ ?_)
  refine wp_seq_k fun K11 hK11 => ?_
  refine wp_seq_k fun K12 hK12 => ?_
  refine c_region ?_
  refine s_op (o_move (v := (.int .i64 (1 : Int))) rfl ?_)
  refine s_op (o_eql (a := (1 : Int)) (b := 0) rfl rfl ?_)
  refine s_nil ?_
  refine t_norm (hK12 _ _ ?_)
  refine c_cond rfl (fun h13 => ?_) (fun h13 => ?_)
  · -- (1 : Int) = 0
    exfalso; omega
  · -- not: (1 : Int) = 0
    refine wp_skip ?_
    refine t_norm (hK11 _ _ ?_)
    refine wp_seq_k fun K14 hK14 => ?_
    refine c_region ?_
    refine s_op (o_move (v := (.slice (some ⟨g, 0, none⟩) n cap)) rfl ?_)
    refine s_op (o_len Try.underlying23 rfl ?_)
    refine s_op (o_assign (v := (.int .i64 (n : Int))) rfl ?_)
    refine s_nil ?_
    refine t_norm (hK14 _ _ ?_)
    refine wp_seq_k fun K15 hK15 => ?_
    refine wp_seq_k fun K16 hK16 => ?_
    refine c_region ?_
    refine s_op (o_move (v := (.int .i64 (i : Int))) rfl ?_)
    refine s_op (o_move (v := (.int .i64 (n : Int))) rfl ?_)
    refine s_op (o_eql (a := (i : Int)) (b := (n : Int)) rfl rfl ?_)
    refine s_nil ?_
    refine t_norm (hK16 _ _ ?_)
    refine c_cond rfl (fun h17 => ?_) (fun h17 => ?_)
    · -- (i : Int) = (n : Int)
      exfalso; omega
    · -- not: (i : Int) = (n : Int)
      refine wp_skip ?_
      refine t_norm (hK15 _ _ ?_)
      refine wp_seq_k fun K18 hK18 => ?_
      refine wp_seq_k fun K19 hK19 => ?_
      refine c_region ?_
      refine s_op (o_move (v := (.int .i64 (n : Int))) rfl ?_)
      refine s_op (o_move (v := (.int .i64 (1 : Int))) rfl ?_)
      refine s_op (o_add (a := (n : Int)) (b := (1 : Int)) rfl rfl (w64 (by omega) (by omega)) ?_)
      refine s_op (o_move (v := (.slice (some ⟨g, 0, none⟩) n cap)) rfl ?_)
      refine s_op (o_cap Try.underlying23 rfl ?_)
      refine s_op (o_gtr (a := (n : Int) + (1 : Int)) (b := (cap : Int)) rfl rfl ?_)
      refine s_nil ?_
      refine t_norm (hK19 _ _ ?_)
      refine c_cond rfl (fun h20 => ?_) (fun h20 => ?_)
      · -- (cap : Int) < (n : Int) + (1 : Int)
        refine wp_seq_k fun K21 hK21 => ?_
        refine c_region ?_
        refine s_op (o_move (v := (.slice (some ⟨g, 0, none⟩) n cap)) rfl ?_)
        refine s_op (o_move (v := (.int .i64 (i : Int))) rfl ?_)
        obtain ⟨o22, n23, c24, ho28, hn25, hc26⟩ := rsl_ex3 0 1 (i := 0) (j := (i : Int)) (m := ((cap : Nat) : Int)) (by omega) (by omega) (by omega)
        refine s_op (o_rsl2 (i := 0) (j := (i : Int)) (m := ((cap : Nat) : Int)) Try.underlying23 ti3 rfl (bounds_h (n := n) (cap := cap) (j := (i : Int)) (by omega) (by omega)) (by omega) (by omega) (by omega) (off3 ho28 (by omega)) hn25 hc26 ?_)
        refine s_op (o_move (v := (.int .i64 (n : Int))) rfl ?_)
        refine s_op (o_move (v := (.int .i64 (1 : Int))) rfl ?_)
        refine s_op (o_add (a := (n : Int)) (b := (1 : Int)) rfl rfl (w64 (by omega) (by omega)) ?_)
        refine s_op (o_move (v := (.int .i64 (i : Int))) rfl ?_)
        refine s_op (o_sub (a := (n : Int) + (1 : Int)) (b := (i : Int)) rfl rfl (w64 (by omega) (by omega)) ?_)
        refine s_op (o_appmake (m := (((n : Int) + (1 : Int)) - (i : Int)).toNat) (cs := (c.toList.drop o22).take (n23 * 1)) Try.underlying23 Try.underlying3 ti3 rfl (by decide) rfl (sl_raw (b := g) (o := o22) (sz := 1) (n := n23) (cap := c24) (c := c) (e := 3) (g := (0, 0)) (by omega) (by omega) (by omega)) rfl (by omega) hH (seg_sub 0 rfl) (by omega) (by omega) (by omega) fun b29 c30 p31 w32 hs34 hr35 hm36 ht37 hH33 => ?_)
        refine s_op (o_assign (v := (.slice (some ⟨b29, 0, none⟩) (n23 + (((n : Int) + (1 : Int)) - (i : Int)).toNat) p31)) rfl ?_)
        refine s_nil ?_
        refine t_norm (hK21 _ _ ?_)
        refine wp_seq_k fun K38 hK38 => ?_
        refine c_region ?_
        refine s_op (o_move (v := (.slice (some ⟨b29, 0, none⟩) (n23 + (((n : Int) + (1 : Int)) - (i : Int)).toNat) p31)) rfl ?_)
        refine s_op (o_move (v := (.int .i64 (i : Int))) rfl ?_)
        obtain ⟨o39, n40, c41, ho45, hn42, hc43⟩ := rsl_ex3 0 1 (i := (i : Int)) (j := (((n23 + (((n : Int) + (1 : Int)) - (i : Int)).toNat) : Nat) : Int)) (m := ((p31 : Nat) : Int)) (by omega) (by omega) (by omega)
        refine s_op (o_rsl2 (i := (i : Int)) (j := (((n23 + (((n : Int) + (1 : Int)) - (i : Int)).toNat) : Nat) : Int)) (m := ((p31 : Nat) : Int)) Try.underlying23 ti3 rfl (bounds_l (n := (n23 + (((n : Int) + (1 : Int)) - (i : Int)).toNat)) (cap := p31) (i := (i : Int)) (by omega) (by omega)) (by omega) (by omega) (by omega) (off3 ho45 (by omega)) hn42 hc43 ?_)
        refine s_op (o_move (v := (.slice (some ⟨bu, 0, none⟩) 1 1)) rfl ?_)
        refine s_op (o_copy (ds := (cu.toList.drop 0).take (1 * 1)) Try.underlying23 ti3 rfl rfl (sl_raw (b := bu) (o := 0) (sz := 1) (n := 1) (cap := 1) (c := cu) (e := 3) (g := (0, 0)) (by omega) (by omega) (by omega)) hH33 (seg_sub 2 rfl) (by omega) (fun u hu => by exact h2 u (List.mem_of_mem_drop (List.mem_of_mem_take (List.mem_of_mem_take hu)))) fun c46 w47 hz50 hc48 hH49 => ?_)
        refine s_nil ?_
        refine t_norm (hK38 _ _ ?_)
        refine wp_seq_k fun K51 hK51 => ?_
        obtain ⟨o52, n53, c54, ho58, hn55, hc56⟩ := rsl_ex3 0 1 (i := (i : Int) + (1 : Int)) (j := (((n23 + (((n : Int) + (1 : Int)) - (i : Int)).toNat) : Nat) : Int)) (m := ((p31 : Nat) : Int)) (by omega) (by omega) (by omega)
        obtain ⟨o59, n60, c61, ho65, hn62, hc63⟩ := rsl_ex3 0 1 (i := (i : Int)) (j := ((n : Nat) : Int)) (m := ((cap : Nat) : Int)) (by omega) (by omega) (by omega)
        have hH71 : Has E w47 [[Hp.one g (.cells c 3 (0, 0))], [Hp.one bu (.cells cu 3 (0, 0))], R, [Hp.one b29 (.cells c46 3 (0, 0))]] := (((hH49.front 3 rfl).front 3 rfl).front 3 rfl).first 4 rfl
        refine c_flow [[Hp.one g (.cells c 3 (0, 0))], [Hp.one bu (.cells cu 3 (0, 0))], R] (fun i_ => match i_ with | 8 => [Hp.one b29 (.cells c46 3 (0, 0))] | _ => []) (fun i_ v_ h_ => match i_ with | 0 => v_ = (.slice (some ⟨b29, 0, none⟩) (n23 + (((n : Int) + (1 : Int)) - (i : Int)).toNat) p31) ∧ h_ = [] | 1 => v_ = (.int .i64 (i : Int)) ∧ h_ = [] | 2 => v_ = (.int .i64 (1 : Int)) ∧ h_ = [] | 3 => v_ = (.int .i64 ((i : Int) + (1 : Int))) ∧ h_ = [] | 4 => v_ = (.slice (some ⟨b29, o52, none⟩) n53 c54) ∧ h_ = [] | 5 => v_ = (.slice (some ⟨g, 0, none⟩) n cap) ∧ h_ = [] | 6 => v_ = (.int .i64 (i : Int)) ∧ h_ = [] | 7 => v_ = (.slice (some ⟨g, o59, none⟩) n60 c61) ∧ h_ = [] | 8 => ∃ (c66 : Array Value), v_ = (.int .i64 ((min n60 n53 : Nat) : Int)) ∧ h_ = [Hp.one b29 (.cells c66 3 (0, 0))] ∧ (c66.size = c46.size) ∧ (c66.toList = (if 0 < min n60 n53 then c46.toList.take o52 ++ ((c.toList.drop o59).take (n60 * 1)).take (min n60 n53 * 1) ++ c46.toList.drop (o52 + min n60 n53 * 1) else c46.toList)) | _ => True) mixed (by kernel_rfl) (flow_has (cs := [[Hp.one b29 (.cells c46 3 (0, 0))]]) hH71 rfl) ?_ ?_
        · intro i_ o_ ho_ r' w' G hs_ ht
          match i_, ho_ with
          | 0, ho_ =>
            obtain rfl := Option.some.inj ho_
            have e9 : r' 9 = (.slice (some ⟨b29, 0, none⟩) (n23 + (((n : Int) + (1 : Int)) - (i : Int)).toNat) p31) := ht.was 9 (by kernel_rfl)
            have hG := ht.has.drop
            refine o_move (v := (.slice (some ⟨b29, 0, none⟩) (n23 + (((n : Int) + (1 : Int)) - (i : Int)).toNat) p31)) e9 ?_
            exact ⟨_, ⟨rfl, rfl⟩, hG⟩
          | 1, ho_ =>
            obtain rfl := Option.some.inj ho_
            have e1 : r' 1 = (.int .i64 (i : Int)) := ht.was 1 (by kernel_rfl)
            have hG := ht.has.drop
            refine o_move (v := (.int .i64 (i : Int))) e1 ?_
            exact ⟨_, ⟨rfl, rfl⟩, hG⟩
          | 2, ho_ =>
            obtain rfl := Option.some.inj ho_
            have e7 : r' 7 = (.int .i64 (1 : Int)) := ht.was 7 (by kernel_rfl)
            have hG := ht.has.drop
            refine o_move (v := (.int .i64 (1 : Int))) e7 ?_
            exact ⟨_, ⟨rfl, rfl⟩, hG⟩
          | 3, ho_ =>
            obtain rfl := Option.some.inj ho_
            obtain ⟨e47, eh1⟩ := (ht.done 1 _ rfl rfl).1
            obtain ⟨e48, eh2⟩ := (ht.done 2 _ rfl rfl).1
            have hG := ht.has.drop
            refine o_add (a := (i : Int)) (b := (1 : Int)) e47 e48 (w64 (by omega) (by omega)) ?_
            exact ⟨_, ⟨rfl, rfl⟩, hG⟩
          | 4, ho_ =>
            obtain rfl := Option.some.inj ho_
            obtain ⟨e46, eh0⟩ := (ht.done 0 _ rfl rfl).1
            obtain ⟨e49, eh3⟩ := (ht.done 3 _ rfl rfl).1
            have hG := ht.has.drop
            refine o_rsl2 (i := (i : Int) + (1 : Int)) (j := (((n23 + (((n : Int) + (1 : Int)) - (i : Int)).toNat) : Nat) : Int)) (m := ((p31 : Nat) : Int)) Try.underlying23 ti3 e46 (fun w => by simp only [Option.map_some, Option.map_none, show ev 95 r' (.tmp 49) = _ from e49]; exact bounds_l (n := (n23 + (((n : Int) + (1 : Int)) - (i : Int)).toNat)) (cap := p31) (i := (i : Int) + (1 : Int)) (by omega) (by omega) w) (by omega) (by omega) (by omega) (off3 ho58 (by omega)) hn55 hc56 ?_
            exact ⟨_, ⟨rfl, rfl⟩, hG⟩
          | 5, ho_ =>
            obtain rfl := Option.some.inj ho_
            have e0 : r' 0 = (.slice (some ⟨g, 0, none⟩) n cap) := ht.was 0 (by kernel_rfl)
            have hG := ht.has.drop
            refine o_move (v := (.slice (some ⟨g, 0, none⟩) n cap)) e0 ?_
            exact ⟨_, ⟨rfl, rfl⟩, hG⟩
          | 6, ho_ =>
            obtain rfl := Option.some.inj ho_
            have e1 : r' 1 = (.int .i64 (i : Int)) := ht.was 1 (by kernel_rfl)
            have hG := ht.has.drop
            refine o_move (v := (.int .i64 (i : Int))) e1 ?_
            exact ⟨_, ⟨rfl, rfl⟩, hG⟩
          | 7, ho_ =>
            obtain rfl := Option.some.inj ho_
            obtain ⟨e51, eh5⟩ := (ht.done 5 _ rfl rfl).1
            obtain ⟨e52, eh6⟩ := (ht.done 6 _ rfl rfl).1
            have hG := ht.has.drop
            refine o_rsl2 (i := (i : Int)) (j := ((n : Nat) : Int)) (m := ((cap : Nat) : Int)) Try.underlying23 ti3 e51 (fun w => by simp only [Option.map_some, Option.map_none, show ev 95 r' (.tmp 52) = _ from e52]; exact bounds_l (n := n) (cap := cap) (i := (i : Int)) (by omega) (by omega) w) (by omega) (by omega) (by omega) (off3 ho65 (by omega)) hn62 hc63 ?_
            exact ⟨_, ⟨rfl, rfl⟩, hG⟩
          | 8, ho_ =>
            obtain rfl := Option.some.inj ho_
            obtain ⟨e50, eh4⟩ := (ht.done 4 _ rfl rfl).1
            obtain ⟨e53, eh7⟩ := (ht.done 7 _ rfl rfl).1
            have hG := ht.has
            refine o_copy (ds := (c.toList.drop o59).take (n60 * 1)) Try.underlying23 ti3 e50 e53 (sl_raw (b := g) (o := o59) (sz := 1) (n := n60) (cap := c61) (c := c) (e := 3) (g := (0, 0)) (by omega) (by omega) (by omega)) hG (sub_r (ht.fr [Hp.one g (.cells c 3 (0, 0))] (by simp))) (by omega) (fun u hu => by exact h1 u (mem_part hu (by omega))) fun c66 w67 hz70 hc68 hH69 => ?_
            exact ⟨_, ⟨c66, rfl, rfl, hz70, hc68⟩, hH69⟩
          | i_ + 9, ho_ => exact absurd ho_ (by simp)
        · intro vs71 hs72 w73 hT74 hH75
          obtain ⟨e0_, eh0_⟩ := hT74 0 _ rfl
          obtain ⟨e1_, eh1_⟩ := hT74 1 _ rfl
          obtain ⟨e2_, eh2_⟩ := hT74 2 _ rfl
          obtain ⟨e3_, eh3_⟩ := hT74 3 _ rfl
          obtain ⟨e4_, eh4_⟩ := hT74 4 _ rfl
          obtain ⟨e5_, eh5_⟩ := hT74 5 _ rfl
          obtain ⟨e6_, eh6_⟩ := hT74 6 _ rfl
          obtain ⟨e7_, eh7_⟩ := hT74 7 _ rfl
          obtain ⟨c66, e8_, eh8_, hz70, hc68⟩ := hT74 8 _ rfl
          have hH76 : Has E w73 ([[Hp.one g (.cells c 3 (0, 0))], [Hp.one bu (.cells cu 3 (0, 0))], R] ++ [[Hp.one b29 (.cells c66 3 (0, 0))]]) := flow_back (cs := [[Hp.one b29 (.cells c66 3 (0, 0))]]) hH75 (by show (hs72 0 ++ (hs72 1 ++ (hs72 2 ++ (hs72 3 ++ (hs72 4 ++ (hs72 5 ++ (hs72 6 ++ (hs72 7 ++ (hs72 8 ++ []))))))))) = _; rw [eh0_, eh1_, eh2_, eh3_, eh4_, eh5_, eh6_, eh7_, eh8_]; rfl)
          generalize hr78 : puts vs71 _ 0 _ = r77
          have e79_0 : r77 0 = (.slice (some ⟨g, 0, none⟩) n cap) := by rw [← hr78]; exact rfl
          have e79_1 : r77 1 = (.int .i64 (i : Int)) := by rw [← hr78]; exact rfl
          have e79_2 : r77 2 = (.slice (some ⟨bu, 0, none⟩) 1 1) := by rw [← hr78]; exact rfl
          have e79_6 : r77 6 = (.slice none 0 0) := by rw [← hr78]; exact rfl
          have e79_7 : r77 7 = (.int .i64 (1 : Int)) := by rw [← hr78]; exact rfl
          have e79_8 : r77 8 = (.int .i64 (n : Int)) := by rw [← hr78]; exact rfl
          have e79_9 : r77 9 = (.slice (some ⟨b29, 0, none⟩) (n23 + (((n : Int) + (1 : Int)) - (i : Int)).toNat) p31) := by rw [← hr78]; exact rfl
          have e79_16 : r77 16 = (.bool (decide ((1 : Int) = 0))) := by rw [← hr78]; exact rfl
          have e79_22 : r77 22 = (.bool (decide ((i : Int) = (n : Int)))) := by rw [← hr78]; exact rfl
          have e79_31 : r77 31 = (.bool (decide ((cap : Int) < (n : Int) + (1 : Int)))) := by rw [← hr78]; exact rfl
          refine t_norm (hK51 _ _ ?_)
          refine wp_seq_k fun K80 hK80 => ?_
          refine c_region ?_
          refine s_op (o_move (v := (.slice (some ⟨b29, 0, none⟩) (n23 + (((n : Int) + (1 : Int)) - (i : Int)).toNat) p31)) e79_9 ?_)
          refine s_op (o_assign (v := (.slice (some ⟨b29, 0, none⟩) (n23 + (((n : Int) + (1 : Int)) - (i : Int)).toNat) p31)) rfl ?_)
          refine s_nil ?_
          refine t_norm (hK80 _ _ ?_)
          refine wp_ret ?_
          refine t_ret (c_ret1 Try.results30  (v := (.slice (some ⟨b29, 0, none⟩) (n23 + (((n : Int) + (1 : Int)) - (i : Int)).toNat) p31)) rfl ?_)
          have hH81 : Has E w73 [[Hp.one b29 (.cells c66 3 (0, 0))], R] := ((hH76.front 2 rfl).front 3 rfl).first 2 rfl
          rw [if_pos (by omega)] at hc48
          rw [if_pos (by omega)] at hc68
          refine ⟨_, _, rfl, ⟨?_, .inr ⟨b29, p31, c66, by rw [show (n23 + (((n : Int) + (1 : Int)) - (i : Int)).toNat) = n + 1 from by omega, show (0 : Nat) = 0 from by omega], rfl, by omega, by simp only [maxLen]; omega, by omega, ?_⟩⟩, hH81⟩
          · rw [show (n + 1) * 1 = n * 1 + 1 from by omega]; exact ins_len (by simp only [Array.length_toList]; omega) (by omega) (by simp only [Array.length_toList]; omega)
          · rw [show (n + 1) * 1 = n * 1 + 1 from by omega]; exact insA ht37 hc48 hc68 (by omega) (by omega) (by omega) (by omega) (by omega) (by omega) (by omega) (by omega) (by omega) (by omega) (by omega) (by simp only [Array.length_toList]; omega) (by omega) (by simp only [Array.length_toList]; omega) (by simp only [Array.length_toList]; omega)
      · -- not: (cap : Int) < (n : Int) + (1 : Int)
        exfalso; omega
end Go.Q
