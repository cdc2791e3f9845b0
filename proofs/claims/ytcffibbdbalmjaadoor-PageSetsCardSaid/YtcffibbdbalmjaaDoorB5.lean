/-
  Parts of a walk: what functions of the program compute, each told by a theorem (QDp4, QDp5, QPageL, QPageW, QDL1, QAF).
-/
import Derived.Test.YtcffibbdbalmjaaDoorB4
import Derived.ArgAppend
set_option linter.unusedVariables false
set_option linter.unusedSimpArgs false
set_option linter.unnecessarySimpa false
namespace Go.Q
open Go.Proofs
set_option linter.unusedVariables false
set_option maxRecDepth 100000
attribute [local irreducible] wpList OK Code.wp
set_option maxHeartbeats 4000000 in
theorem cins_grow {E w : World} {R : List Hp} (g bu n cap i : Nat) (c cu : Array Value) (hH : Has E w [[Hp.one g (.cells c 45 (0, 0))], [Hp.one bu (.cells cu 45 (0, 0))], R]) (hi : i < n) (hnc : n ≤ cap) (hroom : cap < n + 1) (hcap : cap ≤ 9223372036854775807) (hcs : c.size = cap * 2) (hcu : cu.size = 2) (hbig : (n + 1) * 32 ≤ 140737488355328) (h1 : ∀ u ∈ c.toList.take (n * 2), u.oneCell' = true) (h2 : ∀ u ∈ cu.toList, u.oneCell' = true) :
    Calls Tryd.prog 44 #[(.slice (some ⟨g, 0, none⟩) n cap), (.int .i64 (i : Int)), (.slice (some ⟨bu, 0, none⟩) 1 1)] w fun e w' => ∃ v' hs', e = .returned v' ∧ Own 45 2 v' (n + 1) (c.toList.take (i * 2) ++ cu.toList ++ (c.toList.take (n * 2)).drop (i * 2)) hs' ∧ Has E w' [hs', R] := by
  refine c_enter (args := [(.slice (some ⟨g, 0, none⟩) n cap), (.int .i64 (i : Int)), (.slice (some ⟨bu, 0, none⟩) 1 1)]) Tryd.func44 rfl Tryd.ntmps44 (by simp) ?_
  refine wp_seq_k fun K1 hK1 => ?_
  refine c_region ?_
  refine s_op (o_assign (v := (.slice none 0 0)) rfl ?_)
  refine s_nil ?_
  refine t_norm (hK1 _ _ ?_)
  refine wp_seq_k fun K2 hK2 => ?_
  refine c_region ?_
  refine s_op (o_move (v := (.slice (some ⟨g, 0, none⟩) n cap)) rfl ?_)
  refine s_op (o_move (v := (.int .i64 (i : Int))) rfl ?_)
  obtain ⟨o3, n4, c5, ho9, hn6, hc7⟩ := rsl_ex3 0 2 (i := (i : Int)) (j := ((n : Nat) : Int)) (m := ((cap : Nat) : Int)) (by omega) (by omega) (by omega)
  refine s_op (o_rsl2 (i := (i : Int)) (j := ((n : Nat) : Int)) (m := ((cap : Nat) : Int)) Tryd.underlying22 ti45 rfl (bounds_l (n := n) (cap := cap) (i := (i : Int)) (by omega) (by omega)) (by omega) (by omega) (by omega) (off3 ho9 (by omega)) hn6 hc7 ?_)
  refine s_nil ?_
  refine t_norm (hK2 _ _ ?_)
  refine wp_seq_k fun K10 hK10 => ?_
  refine c_region ?_
  refine s_op (o_move (v := (.slice (some ⟨bu, 0, none⟩) 1 1)) rfl ?_)
  refine s_op (o_len Tryd.underlying22 rfl ?_)
  refine s_op (o_assign (v := (.int .i64 (1 : Int))) rfl ?_)
  refine s_nil ?_
  refine t_norm (hK10 _ _ ?_)
  refine wp_seq_k fun K11 hK11 => ?_
  refine wp_seq_k fun K12 hK12 => ?_
  refine c_region ?_
  refine s_op (o_move (v := (.int .i64 (1 : Int))) rfl ?_)
  refine s_op (o_eql (a := (1 : Int)) (b := 0) rfl rfl ?_)
  refine s_nil ?_
  refine t_norm (hK12 _ _ ?_)
  refine c_cond rfl (fun h13 => ?_) (fun h13 => ?_)
  · -- (1 : Int) = 0
    exfalso; omega
  · -- not: (1 : Int) = 0
    refine wp_skip ?_
    refine t_norm (hK11 _ _ ?_)
    refine wp_seq_k fun K14 hK14 => ?_
    refine c_region ?_
    refine s_op (o_move (v := (.slice (some ⟨g, 0, none⟩) n cap)) rfl ?_)
    refine s_op (o_len Tryd.underlying22 rfl ?_)
    refine s_op (o_assign (v := (.int .i64 (n : Int))) rfl ?_)
    refine s_nil ?_
    refine t_norm (hK14 _ _ ?_)
    refine wp_seq_k fun K15 hK15 => ?_
    refine wp_seq_k fun K16 hK16 => ?_
    refine c_region ?_
    refine s_op (o_move (v := (.int .i64 (i : Int))) rfl ?_)
    refine s_op (o_move (v := (.int .i64 (n : Int))) rfl ?_)
    refine s_op (o_eql (a := (i : Int)) (b := (n : Int)) rfl rfl ?_)
    refine s_nil ?_
    refine t_norm (hK16 _ _ ?_)
    refine c_cond rfl (fun h17 => ?_) (fun h17 => ?_)
    · -- (i : Int) = (n : Int)
      exfalso; omega
    · -- not: (i : Int) = (n : Int)
      refine wp_skip ?_
      refine t_norm (hK15 _ _ ?_)
      refine wp_seq_k fun K18 hK18 => ?_
      refine wp_seq_k fun K19 hK19 => ?_
      refine c_region ?_
      refine s_op (o_move (v := (.int .i64 (n : Int))) rfl ?_)
      refine s_op (o_move (v := (.int .i64 (1 : Int))) rfl ?_)
      refine s_op (o_add (a := (n : Int)) (b := (1 : Int)) rfl rfl (w64 (by omega) (by omega)) ?_)
      refine s_op (o_move (v := (.slice (some ⟨g, 0, none⟩) n cap)) rfl ?_)
      refine s_op (o_cap Tryd.underlying22 rfl ?_)
      refine s_op (o_gtr (a := (n : Int) + (1 : Int)) (b := (cap : Int)) rfl rfl ?_)
      refine s_nil ?_
      refine t_norm (hK19 _ _ ?_)
      refine c_cond rfl (fun h20 => ?_) (fun h20 => ?_)
      · -- (cap : Int) < (n : Int) + (1 : Int)
        refine wp_seq_k fun K21 hK21 => ?_
        refine c_region ?_
        refine s_op (o_move (v := (.slice (some ⟨g, 0, none⟩) n cap)) rfl ?_)
        refine s_op (o_move (v := (.int .i64 (i : Int))) rfl ?_)
        obtain ⟨o22, n23, c24, ho28, hn25, hc26⟩ := rsl_ex3 0 2 (i := 0) (j := (i : Int)) (m := ((cap : Nat) : Int)) (by omega) (by omega) (by omega)
        refine s_op (o_rsl2 (i := 0) (j := (i : Int)) (m := ((cap : Nat) : Int)) Tryd.underlying22 ti45 rfl (bounds_h (n := n) (cap := cap) (j := (i : Int)) (by omega) (by omega)) (by omega) (by omega) (by omega) (off3 ho28 (by omega)) hn25 hc26 ?_)
        refine s_op (o_move (v := (.int .i64 (n : Int))) rfl ?_)
        refine s_op (o_move (v := (.int .i64 (1 : Int))) rfl ?_)
        refine s_op (o_add (a := (n : Int)) (b := (1 : Int)) rfl rfl (w64 (by omega) (by omega)) ?_)
        refine s_op (o_move (v := (.int .i64 (i : Int))) rfl ?_)
        refine s_op (o_sub (a := (n : Int) + (1 : Int)) (b := (i : Int)) rfl rfl (w64 (by omega) (by omega)) ?_)
        refine s_op (o_appmake (m := (((n : Int) + (1 : Int)) - (i : Int)).toNat) (cs := (c.toList.drop o22).take (n23 * 2)) Tryd.underlying22 Tryd.underlying3 ti45 rfl (by decide) rfl (sl_raw (b := g) (o := o22) (sz := 2) (n := n23) (cap := c24) (c := c) (e := 45) (g := (0, 0)) (by omega) (by omega) (by omega)) rfl (by omega) hH (seg_sub 0 rfl) (by omega) (by omega) (by omega) fun b38 c39 p40 w41 hs43 hr44 hm45 ht46 hH42 => ?_)
        refine s_op (o_assign (v := (.slice (some ⟨b38, 0, none⟩) (n23 + (((n : Int) + (1 : Int)) - (i : Int)).toNat) p40)) rfl ?_)
        refine s_nil ?_
        refine t_norm (hK21 _ _ ?_)
        refine wp_seq_k fun K47 hK47 => ?_
        refine c_region ?_
        refine s_op (o_move (v := (.slice (some ⟨b38, 0, none⟩) (n23 + (((n : Int) + (1 : Int)) - (i : Int)).toNat) p40)) rfl ?_)
        refine s_op (o_move (v := (.int .i64 (i : Int))) rfl ?_)
        obtain ⟨o48, n49, c50, ho54, hn51, hc52⟩ := rsl_ex3 0 2 (i := (i : Int)) (j := (((n23 + (((n : Int) + (1 : Int)) - (i : Int)).toNat) : Nat) : Int)) (m := ((p40 : Nat) : Int)) (by omega) (by omega) (by omega)
        refine s_op (o_rsl2 (i := (i : Int)) (j := (((n23 + (((n : Int) + (1 : Int)) - (i : Int)).toNat) : Nat) : Int)) (m := ((p40 : Nat) : Int)) Tryd.underlying22 ti45 rfl (bounds_l (n := (n23 + (((n : Int) + (1 : Int)) - (i : Int)).toNat)) (cap := p40) (i := (i : Int)) (by omega) (by omega)) (by omega) (by omega) (by omega) (off3 ho54 (by omega)) hn51 hc52 ?_)
        refine s_op (o_move (v := (.slice (some ⟨bu, 0, none⟩) 1 1)) rfl ?_)
        refine s_op (o_copy (ds := (cu.toList.drop 0).take (1 * 2)) Tryd.underlying22 ti45 rfl rfl (sl_raw (b := bu) (o := 0) (sz := 2) (n := 1) (cap := 1) (c := cu) (e := 45) (g := (0, 0)) (by omega) (by omega) (by omega)) hH42 (seg_sub 2 rfl) (by omega) (fun u hu => by exact h2 u (List.mem_of_mem_drop (List.mem_of_mem_take (List.mem_of_mem_take hu)))) fun c55 w56 hz59 hc57 hH58 => ?_)
        refine s_nil ?_
        refine t_norm (hK47 _ _ ?_)
        refine wp_seq_k fun K60 hK60 => ?_
        refine Rest.region mixed (by kernel_rfl) ?_
        have hH61 : Has E { w56 with drawn := w56.drawn + 1 } [[Hp.one b38 (.cells c55 45 (0, 0))], [Hp.one g (.cells c 45 (0, 0))], [Hp.one bu (.cells cu 45 (0, 0))], R] := Has0.drew hH58 _
        refine Rest.phaseA (fun w_ => Has E w_ []) 0 8 8 rfl (by decide) (by kernel_rfl) ?_
        refine a_op 0 rfl (by kernel_rfl) (fun w_ h_ => o_move (v := (.slice (some ⟨b38, 0, none⟩) (n23 + (((n : Int) + (1 : Int)) - (i : Int)).toNat) p40)) rfl ⟨rfl, rfl⟩) ?_
        refine a_op 1 rfl (by kernel_rfl) (fun w_ h_ => o_move (v := (.int .i64 (i : Int))) rfl ⟨rfl, rfl⟩) ?_
        refine a_op 2 rfl (by kernel_rfl) (fun w_ h_ => o_move (v := (.int .i64 (1 : Int))) rfl ⟨rfl, rfl⟩) ?_
        refine a_op 3 rfl (by kernel_rfl) (fun w_ h_ => o_add (a := (i : Int)) (b := (1 : Int)) rfl rfl (w64 (by omega) (by omega)) ⟨rfl, rfl⟩) ?_
        obtain ⟨o62, n63, c64, ho68, hn65, hc66⟩ := rsl_ex3 0 2 (i := (i : Int) + (1 : Int)) (j := (((n23 + (((n : Int) + (1 : Int)) - (i : Int)).toNat) : Nat) : Int)) (m := ((p40 : Nat) : Int)) (by omega) (by omega) (by omega)
        refine a_op 4 rfl (by kernel_rfl) (fun w_ h_ => o_rsl2 (i := (i : Int) + (1 : Int)) (j := (((n23 + (((n : Int) + (1 : Int)) - (i : Int)).toNat) : Nat) : Int)) (m := ((p40 : Nat) : Int)) Tryd.underlying22 ti45 rfl (bounds_l (n := (n23 + (((n : Int) + (1 : Int)) - (i : Int)).toNat)) (cap := p40) (i := (i : Int) + (1 : Int)) (by omega) (by omega)) (by omega) (by omega) (by omega) (off3 ho68 (by omega)) hn65 hc66 ⟨rfl, rfl⟩) ?_
        refine a_op 5 rfl (by kernel_rfl) (fun w_ h_ => o_move (v := (.slice (some ⟨g, 0, none⟩) n cap)) rfl ⟨rfl, rfl⟩) ?_
        refine a_op 6 rfl (by kernel_rfl) (fun w_ h_ => o_move (v := (.int .i64 (i : Int))) rfl ⟨rfl, rfl⟩) ?_
        obtain ⟨o69, n70, c71, ho75, hn72, hc73⟩ := rsl_ex3 0 2 (i := (i : Int)) (j := ((n : Nat) : Int)) (m := ((cap : Nat) : Int)) (by omega) (by omega) (by omega)
        refine a_op 7 rfl (by kernel_rfl) (fun w_ h_ => o_rsl2 (i := (i : Int)) (j := ((n : Nat) : Int)) (m := ((cap : Nat) : Int)) Tryd.underlying22 ti45 rfl (bounds_l (n := n) (cap := cap) (i := (i : Int)) (by omega) (by omega)) (by omega) (by omega) (by omega) (off3 ho75 (by omega)) hn72 hc73 ⟨rfl, rfl⟩) ?_
        have hH76 : Has E { w56 with drawn := w56.drawn + 1 } [] := hH61.first 0 rfl
        refine a_done (by kernel_rfl) hH76 ?_
        refine r_op 8 rfl (by kernel_rfl) (o_copy (ds := (c.toList.drop o69).take (n70 * 2)) Tryd.underlying22 ti45 rfl rfl (sl_raw (b := g) (o := o69) (sz := 2) (n := n70) (cap := c71) (c := c) (e := 45) (g := (0, 0)) (by omega) (by omega) (by omega)) hH61 (seg_sub 1 rfl) (by omega) (fun u hu => by exact h1 u (mem_part hu (by omega))) fun c77 w78 hz81 hc79 hH80 => ?_)
        refine Rest.done (by kernel_rfl) ?_
        refine t_norm (hK60 _ _ ?_)
        refine wp_seq_k fun K82 hK82 => ?_
        refine c_region ?_
        refine s_op (o_move (v := (.slice (some ⟨b38, 0, none⟩) (n23 + (((n : Int) + (1 : Int)) - (i : Int)).toNat) p40)) rfl ?_)
        refine s_op (o_assign (v := (.slice (some ⟨b38, 0, none⟩) (n23 + (((n : Int) + (1 : Int)) - (i : Int)).toNat) p40)) rfl ?_)
        refine s_nil ?_
        refine t_norm (hK82 _ _ ?_)
        refine wp_ret ?_
        refine t_ret (c_ret1 Tryd.results44  (v := (.slice (some ⟨b38, 0, none⟩) (n23 + (((n : Int) + (1 : Int)) - (i : Int)).toNat) p40)) rfl ?_)
        have hH83 : Has E w78 [[Hp.one b38 (.cells c77 45 (0, 0))], R] := ((hH80.front 3 rfl).front 1 rfl).first 2 rfl
        rw [if_pos (by omega)] at hc57
        rw [if_pos (by omega)] at hc79
        refine ⟨_, _, rfl, ⟨?_, .inr ⟨b38, p40, c77, by rw [show (n23 + (((n : Int) + (1 : Int)) - (i : Int)).toNat) = n + 1 from by omega, show (0 : Nat) = 0 from by omega], rfl, by omega, by simp only [maxLen]; omega, by omega, ?_⟩⟩, hH83⟩
        · rw [show (n + 1) * 2 = n * 2 + 2 from by omega]; exact ins_len (by simp only [Array.length_toList]; omega) (by omega) (by simp only [Array.length_toList]; omega)
        · rw [show (n + 1) * 2 = n * 2 + 2 from by omega]; exact insA ht46 hc57 hc79 (by omega) (by omega) (by omega) (by omega) (by omega) (by omega) (by omega) (by omega) (by omega) (by omega) (by omega) (by simp only [Array.length_toList]; omega) (by omega) (by simp only [Array.length_toList]; omega) (by simp only [Array.length_toList]; omega)
      · -- not: (cap : Int) < (n : Int) + (1 : Int)
        exfalso; omega
set_option maxHeartbeats 4000000 in
theorem cins_room {E w : World} {R : List Hp} (g bu n cap i : Nat) (c cu : Array Value) (hH : Has E w [[Hp.one g (.cells c 45 (0, 0))], [Hp.one bu (.cells cu 45 (0, 0))], R]) (hi : i < n) (hnc : n ≤ cap) (hroom : n + 1 ≤ cap) (hcap : cap ≤ 9223372036854775807) (hcs : c.size = cap * 2) (hcu : cu.size = 2) (hbig : (n + 1) * 32 ≤ 140737488355328) (h1 : ∀ u ∈ c.toList.take (n * 2), u.oneCell' = true) (h2 : ∀ u ∈ cu.toList, u.oneCell' = true) :
    Calls Tryd.prog 44 #[(.slice (some ⟨g, 0, none⟩) n cap), (.int .i64 (i : Int)), (.slice (some ⟨bu, 0, none⟩) 1 1)] w fun e w' => ∃ v' hs', e = .returned v' ∧ Own 45 2 v' (n + 1) (c.toList.take (i * 2) ++ cu.toList ++ (c.toList.take (n * 2)).drop (i * 2)) hs' ∧ Has E w' [hs', R] := by
  refine c_enter (args := [(.slice (some ⟨g, 0, none⟩) n cap), (.int .i64 (i : Int)), (.slice (some ⟨bu, 0, none⟩) 1 1)]) Tryd.func44 rfl Tryd.ntmps44 (by simp) ?_
  refine wp_seq_k fun K1 hK1 => ?_
  refine c_region ?_
  refine s_op (o_assign (v := (.slice none 0 0)) rfl ?_)
  refine s_nil ?_
  refine t_norm (hK1 _ _ ?_)
  refine wp_seq_k fun K2 hK2 => ?_
  refine c_region ?_
  refine s_op (o_move (v := (.slice (some ⟨g, 0, none⟩) n cap)) rfl ?_)
  refine s_op (o_move (v := (.int .i64 (i : Int))) rfl ?_)
  obtain ⟨o3, n4, c5, ho9, hn6, hc7⟩ := rsl_ex3 0 2 (i := (i : Int)) (j := ((n : Nat) : Int)) (m := ((cap : Nat) : Int)) (by omega) (by omega) (by omega)
  refine s_op (o_rsl2 (i := (i : Int)) (j := ((n : Nat) : Int)) (m := ((cap : Nat) : Int)) Tryd.underlying22 ti45 rfl (bounds_l (n := n) (cap := cap) (i := (i : Int)) (by omega) (by omega)) (by omega) (by omega) (by omega) (off3 ho9 (by omega)) hn6 hc7 ?_)
  refine s_nil ?_
  refine t_norm (hK2 _ _ ?_)
  refine wp_seq_k fun K10 hK10 => ?_
  refine c_region ?_
  refine s_op (o_move (v := (.slice (some ⟨bu, 0, none⟩) 1 1)) rfl ?_)
  refine s_op (o_len Tryd.underlying22 rfl ?_)
  refine s_op (o_assign (v := (.int .i64 (1 : Int))) rfl ?_)
  refine s_nil ?_
  refine t_norm (hK10 _ _ ?_)
  refine wp_seq_k fun K11 hK11 => ?_
  refine wp_seq_k fun K12 hK12 => ?_
  refine c_region ?_
  refine s_op (o_move (v := (.int .i64 (1 : Int))) rfl ?_)
  refine s_op (o_eql (a := (1 : Int)) (b := 0) rfl rfl ?_)
  refine s_nil ?_
  refine t_norm (hK12 _ _ ?_)
  refine c_cond rfl (fun h13 => ?_) (fun h13 => ?_)
  · -- (1 : Int) = 0
    exfalso; omega
  · -- not: (1 : Int) = 0
    refine wp_skip ?_
    refine t_norm (hK11 _ _ ?_)
    refine wp_seq_k fun K14 hK14 => ?_
    refine c_region ?_
    refine s_op (o_move (v := (.slice (some ⟨g, 0, none⟩) n cap)) rfl ?_)
    refine s_op (o_len Tryd.underlying22 rfl ?_)
    refine s_op (o_assign (v := (.int .i64 (n : Int))) rfl ?_)
    refine s_nil ?_
    refine t_norm (hK14 _ _ ?_)
    refine wp_seq_k fun K15 hK15 => ?_
    refine wp_seq_k fun K16 hK16 => ?_
    refine c_region ?_
    refine s_op (o_move (v := (.int .i64 (i : Int))) rfl ?_)
    refine s_op (o_move (v := (.int .i64 (n : Int))) rfl ?_)
    refine s_op (o_eql (a := (i : Int)) (b := (n : Int)) rfl rfl ?_)
    refine s_nil ?_
    refine t_norm (hK16 _ _ ?_)
    refine c_cond rfl (fun h17 => ?_) (fun h17 => ?_)
    · -- (i : Int) = (n : Int)
      exfalso; omega
    · -- not: (i : Int) = (n : Int)
      refine wp_skip ?_
      refine t_norm (hK15 _ _ ?_)
      refine wp_seq_k fun K18 hK18 => ?_
      refine wp_seq_k fun K19 hK19 => ?_
      refine c_region ?_
      refine s_op (o_move (v := (.int .i64 (n : Int))) rfl ?_)
      refine s_op (o_move (v := (.int .i64 (1 : Int))) rfl ?_)
      refine s_op (o_add (a := (n : Int)) (b := (1 : Int)) rfl rfl (w64 (by omega) (by omega)) ?_)
      refine s_op (o_move (v := (.slice (some ⟨g, 0, none⟩) n cap)) rfl ?_)
      refine s_op (o_cap Tryd.underlying22 rfl ?_)
      refine s_op (o_gtr (a := (n : Int) + (1 : Int)) (b := (cap : Int)) rfl rfl ?_)
      refine s_nil ?_
      refine t_norm (hK19 _ _ ?_)
      refine c_cond rfl (fun h20 => ?_) (fun h20 => ?_)
      · -- (cap : Int) < (n : Int) + (1 : Int)
        exfalso; omega
      · -- not: (cap : Int) < (n : Int) + (1 : Int)
        refine wp_skip ?_
        refine t_norm (hK18 _ _ ?_)
        refine wp_seq_k fun K21 hK21 => ?_
        refine c_region ?_
        refine s_op (o_move (v := (.slice (some ⟨g, 0, none⟩) n cap)) rfl ?_)
        refine s_op (o_move (v := (.int .i64 (n : Int))) rfl ?_)
        refine s_op (o_move (v := (.int .i64 (1 : Int))) rfl ?_)
        refine s_op (o_add (a := (n : Int)) (b := (1 : Int)) rfl rfl (w64 (by omega) (by omega)) ?_)
        obtain ⟨o22, n23, c24, ho28, hn25, hc26⟩ := rsl_ex3 0 2 (i := 0) (j := (n : Int) + (1 : Int)) (m := ((cap : Nat) : Int)) (by omega) (by omega) (by omega)
        refine s_op (o_rsl2 (i := 0) (j := (n : Int) + (1 : Int)) (m := ((cap : Nat) : Int)) Tryd.underlying22 ti45 rfl (bounds_h (n := n) (cap := cap) (j := (n : Int) + (1 : Int)) (by omega) (by omega)) (by omega) (by omega) (by omega) (off3 ho28 (by omega)) hn25 hc26 ?_)
        refine s_op (o_assign (v := (.slice (some ⟨g, o22, none⟩) n23 c24)) rfl ?_)
        refine s_nil ?_
        refine t_norm (hK21 _ _ ?_)
        refine wp_seq_k fun K29 hK29 => ?_
        refine wp_seq_k fun K30 hK30 => ?_
        refine c_region ?_
        refine s_op (o_move (v := (.slice (some ⟨bu, 0, none⟩) 1 1)) rfl ?_)
        refine s_op (o_move (v := (.slice (some ⟨g, o22, none⟩) n23 c24)) rfl ?_)
        refine s_op (o_move (v := (.int .i64 (i : Int))) rfl ?_)
        refine s_op (o_move (v := (.int .i64 (1 : Int))) rfl ?_)
        refine s_op (o_add (a := (i : Int)) (b := (1 : Int)) rfl rfl (w64 (by omega) (by omega)) ?_)
        obtain ⟨o31, n32, c33, ho37, hn34, hc35⟩ := rsl_ex3 o22 2 (i := (i : Int) + (1 : Int)) (j := ((n23 : Nat) : Int)) (m := ((c24 : Nat) : Int)) (by omega) (by omega) (by omega)
        refine s_op (o_rsl2 (i := (i : Int) + (1 : Int)) (j := ((n23 : Nat) : Int)) (m := ((c24 : Nat) : Int)) Tryd.underlying22 ti45 rfl (bounds_l (n := n23) (cap := c24) (i := (i : Int) + (1 : Int)) (by omega) (by omega)) (by omega) (by omega) (by omega) (off3 ho37 (by omega)) hn34 hc35 ?_)
        refine s_op (o_overlaps (tR := 4) Tryd.func82 (by kernel_rfl) (by kernel_rfl) (by kernel_rfl) (by kernel_rfl) Tryd.underlying22 ti45 rfl rfl (hH.front 1 rfl) (by omega) rfl ?_)
        refine s_op (o_not rfl ?_)
        refine s_nil ?_
        refine t_norm (hK30 _ _ ?_)
        refine c_true rfl rfl ?_
        refine wp_seq_k fun K38 hK38 => ?_
        refine Rest.region mixed (by kernel_rfl) ?_
        have hH39 : Has E { w with drawn := w.drawn + 1 } [[Hp.one g (.cells c 45 (0, 0))], [Hp.one bu (.cells cu 45 (0, 0))], R] := Has0.drew hH _
        refine Rest.phaseA (fun w_ => Has E w_ []) 0 8 8 rfl (by decide) (by kernel_rfl) ?_
        refine a_op 0 rfl (by kernel_rfl) (fun w_ h_ => o_move (v := (.slice (some ⟨g, o22, none⟩) n23 c24)) rfl ⟨rfl, rfl⟩) ?_
        refine a_op 1 rfl (by kernel_rfl) (fun w_ h_ => o_move (v := (.int .i64 (i : Int))) rfl ⟨rfl, rfl⟩) ?_
        refine a_op 2 rfl (by kernel_rfl) (fun w_ h_ => o_move (v := (.int .i64 (1 : Int))) rfl ⟨rfl, rfl⟩) ?_
        refine a_op 3 rfl (by kernel_rfl) (fun w_ h_ => o_add (a := (i : Int)) (b := (1 : Int)) rfl rfl (w64 (by omega) (by omega)) ⟨rfl, rfl⟩) ?_
        obtain ⟨o40, n41, c42, ho46, hn43, hc44⟩ := rsl_ex3 o22 2 (i := (i : Int) + (1 : Int)) (j := ((n23 : Nat) : Int)) (m := ((c24 : Nat) : Int)) (by omega) (by omega) (by omega)
        refine a_op 4 rfl (by kernel_rfl) (fun w_ h_ => o_rsl2 (i := (i : Int) + (1 : Int)) (j := ((n23 : Nat) : Int)) (m := ((c24 : Nat) : Int)) Tryd.underlying22 ti45 rfl (bounds_l (n := n23) (cap := c24) (i := (i : Int) + (1 : Int)) (by omega) (by omega)) (by omega) (by omega) (by omega) (off3 ho46 (by omega)) hn43 hc44 ⟨rfl, rfl⟩) ?_
        refine a_op 5 rfl (by kernel_rfl) (fun w_ h_ => o_move (v := (.slice (some ⟨g, o22, none⟩) n23 c24)) rfl ⟨rfl, rfl⟩) ?_
        refine a_op 6 rfl (by kernel_rfl) (fun w_ h_ => o_move (v := (.int .i64 (i : Int))) rfl ⟨rfl, rfl⟩) ?_
        obtain ⟨o47, n48, c49, ho53, hn50, hc51⟩ := rsl_ex3 o22 2 (i := (i : Int)) (j := ((n23 : Nat) : Int)) (m := ((c24 : Nat) : Int)) (by omega) (by omega) (by omega)
        refine a_op 7 rfl (by kernel_rfl) (fun w_ h_ => o_rsl2 (i := (i : Int)) (j := ((n23 : Nat) : Int)) (m := ((c24 : Nat) : Int)) Tryd.underlying22 ti45 rfl (bounds_l (n := n23) (cap := c24) (i := (i : Int)) (by omega) (by omega)) (by omega) (by omega) (by omega) (off3 ho53 (by omega)) hn50 hc51 ⟨rfl, rfl⟩) ?_
        have hH54 : Has E { w with drawn := w.drawn + 1 } [] := hH39.first 0 rfl
        refine a_done (by kernel_rfl) hH54 ?_
        refine r_op 8 rfl (by kernel_rfl) (o_copy (ds := (c.toList.drop o47).take (n48 * 2)) Tryd.underlying22 ti45 rfl rfl (sl_raw (b := g) (o := o47) (sz := 2) (n := n48) (cap := c49) (c := c) (e := 45) (g := (0, 0)) (by omega) (by omega) (by omega)) hH39 sub_l (by omega) (fun u hu => by exact h1 u (mem_part hu (by omega))) fun c55 w56 hz59 hc57 hH58 => ?_)
        refine Rest.done (by kernel_rfl) ?_
        refine t_norm (hK38 _ _ ?_)
        refine wp_seq_k fun K60 hK60 => ?_
        refine c_region ?_
        refine s_op (o_move (v := (.slice (some ⟨g, o22, none⟩) n23 c24)) rfl ?_)
        refine s_op (o_move (v := (.int .i64 (i : Int))) rfl ?_)
        obtain ⟨o61, n62, c63, ho67, hn64, hc65⟩ := rsl_ex3 o22 2 (i := (i : Int)) (j := ((n23 : Nat) : Int)) (m := ((c24 : Nat) : Int)) (by omega) (by omega) (by omega)
        refine s_op (o_rsl2 (i := (i : Int)) (j := ((n23 : Nat) : Int)) (m := ((c24 : Nat) : Int)) Tryd.underlying22 ti45 rfl (bounds_l (n := n23) (cap := c24) (i := (i : Int)) (by omega) (by omega)) (by omega) (by omega) (by omega) (off3 ho67 (by omega)) hn64 hc65 ?_)
        refine s_op (o_move (v := (.slice (some ⟨bu, 0, none⟩) 1 1)) rfl ?_)
        refine s_op (o_copy (ds := (cu.toList.drop 0).take (1 * 2)) Tryd.underlying22 ti45 rfl rfl (sl_raw (b := bu) (o := 0) (sz := 2) (n := 1) (cap := 1) (c := cu) (e := 45) (g := (0, 0)) (by omega) (by omega) (by omega)) hH58 (seg_sub 1 rfl) (by omega) (fun u hu => by exact h2 u (List.mem_of_mem_drop (List.mem_of_mem_take (List.mem_of_mem_take hu)))) fun c68 w69 hz72 hc70 hH71 => ?_)
        refine s_nil ?_
        refine t_norm (hK60 _ _ ?_)
        refine wp_seq_k fun K73 hK73 => ?_
        refine c_region ?_
        refine s_op (o_move (v := (.slice (some ⟨g, o22, none⟩) n23 c24)) rfl ?_)
        refine s_op (o_assign (v := (.slice (some ⟨g, o22, none⟩) n23 c24)) rfl ?_)
        refine s_nil ?_
        refine t_norm (hK73 _ _ ?_)
        refine wp_ret ?_
        refine t_ret (c_ret1 Tryd.results44  (v := (.slice (some ⟨g, o22, none⟩) n23 c24)) rfl ?_)
        have hH74 : Has E w69 [[Hp.one g (.cells c68 45 (0, 0))], R] := ((hH71.front 2 rfl).front 1 rfl).first 2 rfl
        rw [if_pos (by omega)] at hc57
        rw [if_pos (by omega)] at hc70
        refine ⟨_, _, rfl, ⟨?_, .inr ⟨g, c24, c68, by rw [show n23 = n + 1 from by omega, show (o22 : Nat) = 0 from by omega], rfl, by omega, by simp only [maxLen]; omega, by omega, ?_⟩⟩, hH74⟩
        · rw [show (n + 1) * 2 = n * 2 + 2 from by omega]; exact ins_len (by simp only [Array.length_toList]; omega) (by omega) (by simp only [Array.length_toList]; omega)
        · rw [show (n + 1) * 2 = n * 2 + 2 from by omega]; exact insB hc57 hc70 (by omega) (by omega) (by omega) (by omega) (by omega) (by omega) (by omega) (by omega) (by omega) (by simp only [Array.length_toList]; omega) (by omega) (by simp only [Array.length_toList]; omega)
set_option maxHeartbeats 4000000 in
theorem cins_end {E w : World} {R hs : List Hp} {v : Value} {l : List Cel} {x : Cel} {bu : Nat} (hH : Has E w [hs, [Hp.one bu (.cells #[(S x.1), (S x.2)] 45 (0, 0))], R]) (ho : Own 45 2 v l.length (l.flatMap ceC) hs) (hl : l.length ≤ 1000000) :
    Calls Tryd.prog 44 #[v, (.int .i64 (l.length : Int)), (.slice (some ⟨bu, 0, none⟩) 1 1)] w fun e w' => ∃ v' hs', e = .returned v' ∧ Own 45 2 v' (l ++ [x]).length ((l ++ [x]).flatMap ceC) hs' ∧ Has E w' [hs', R] := by
  have hu : Sl [Hp.one bu (.cells #[(S x.1), (S x.2)] 45 (0, 0))] 2 (.slice (some ⟨bu, 0, none⟩) 1 1) ([x] : List Cel).length ([x].flatMap ceC) := (sl_litF (f := ceC) (l := [x]) ceC_len rfl rfl (by decide))
  refine c_enter (args := [v, (.int .i64 (l.length : Int)), (.slice (some ⟨bu, 0, none⟩) 1 1)]) Tryd.func44 rfl Tryd.ntmps44 (by simp) ?_
  refine wp_seq_k fun K1 hK1 => ?_
  refine c_region ?_
  refine s_op (o_assign (v := (.slice none 0 0)) rfl ?_)
  refine s_nil ?_
  refine t_norm (hK1 _ _ ?_)
  refine wp_seq_k fun K2 hK2 => ?_
  refine c_region ?_
  refine s_op (o_move (v := v) rfl ?_)
  refine s_op (o_move (v := (.int .i64 (l.length : Int))) rfl ?_)
  refine s_op (o_sl_l Tryd.underlying22 ti45 rfl ho.sl rfl (by omega) (by omega) fun v3 hv4 => ?_)
  have hv5 := sl_dropF ceC_len hv4
  refine s_nil ?_
  refine t_norm (hK2 _ _ ?_)
  refine wp_seq_k fun K6 hK6 => ?_
  refine c_region ?_
  refine s_op (o_move (v := (.slice (some ⟨bu, 0, none⟩) 1 1)) rfl ?_)
  refine s_op (o_lenS Tryd.underlying22 rfl hu ?_)
  refine s_op (o_assign (v := (.int .i64 ((1 : Nat) : Int))) rfl ?_)
  refine s_nil ?_
  refine t_norm (hK6 _ _ ?_)
  refine wp_seq_k fun K7 hK7 => ?_
  refine wp_seq_k fun K8 hK8 => ?_
  refine c_region ?_
  refine s_op (o_move (v := (.int .i64 ((1 : Nat) : Int))) rfl ?_)
  refine s_op (o_eql (a := ((1 : Nat) : Int)) (b := 0) rfl rfl ?_)
  refine s_nil ?_
  refine t_norm (hK8 _ _ ?_)
  refine c_cond rfl (fun h9 => ?_) (fun h9 => ?_)
  · -- ((1 : Nat) : Int) = 0
    exfalso; omega
  · -- not: ((1 : Nat) : Int) = 0
    refine wp_skip ?_
    refine t_norm (hK7 _ _ ?_)
    refine wp_seq_k fun K10 hK10 => ?_
    refine c_region ?_
    refine s_op (o_move (v := v) rfl ?_)
    refine s_op (o_lenS Tryd.underlying22 rfl ho.sl ?_)
    refine s_op (o_assign (v := (.int .i64 ((l.length : Nat) : Int))) rfl ?_)
    refine s_nil ?_
    refine t_norm (hK10 _ _ ?_)
    refine wp_seq_k fun K11 hK11 => ?_
    refine wp_seq_k fun K12 hK12 => ?_
    refine c_region ?_
    refine s_op (o_move (v := (.int .i64 (l.length : Int))) rfl ?_)
    refine s_op (o_move (v := (.int .i64 ((l.length : Nat) : Int))) rfl ?_)
    refine s_op (o_eql (a := (l.length : Int)) (b := ((l.length : Nat) : Int)) rfl rfl ?_)
    refine s_nil ?_
    refine t_norm (hK12 _ _ ?_)
    refine c_cond rfl (fun h13 => ?_) (fun h13 => ?_)
    · -- (l.length : Int) = ((l.length : Nat) : Int)
      refine wp_seq_k fun K14 hK14 => ?_
      refine c_region ?_
      refine s_op (o_move (v := v) rfl ?_)
      refine s_op (o_move (v := (.slice (some ⟨bu, 0, none⟩) 1 1)) rfl ?_)
      refine s_op (o_append Tryd.underlying22 ti45 rfl (by decide) rfl ho rfl hu (hH.front 0 rfl) (seg_sub 0 rfl) (one_ceC _) (by simp; omega) (by simp; omega) fun v15 s16 w18 ho17 hH19 => ?_)
      have ho17 : Own 45 2 v15 (l ++ [x]).length ((l ++ [x]).flatMap ceC) s16 := ho17.appF
      refine s_op (o_assign (v := v15) rfl ?_)
      refine s_nil ?_
      refine t_norm (hK14 _ _ ?_)
      refine wp_ret ?_
      refine t_ret (c_ret1 Tryd.results44  (v := v15) rfl ?_)
      have hH20 : Has E w18 [s16, R] := ((hH19.front 2 rfl).front 1 rfl).first 2 rfl
      exact ⟨_, _, rfl, ho17, hH20⟩
    · -- not: (l.length : Int) = ((l.length : Nat) : Int)
      exact absurd rfl h13
theorem cins_own {E w : World} {R hs : List Hp} {v : Value} {l : List Cel} {x : Cel} {bu : Nat} (i : Nat) (hi : i ≤ l.length) (hH : Has E w [hs, [Hp.one bu (.cells #[(S x.1), (S x.2)] 45 (0, 0))], R]) (ho : Own 45 2 v l.length (l.flatMap ceC) hs) (hl : l.length ≤ 1000000) :
    Calls Tryd.prog 44 #[v, (.int .i64 (i : Int)), (.slice (some ⟨bu, 0, none⟩) 1 1)] w fun e w' => ∃ v' hs', e = .returned v' ∧ Own 45 2 v' (insAt l i x).length ((insAt l i x).flatMap ceC) hs' ∧ Has E w' [hs', R] := by
  unfold insAt
  rcases Nat.lt_or_ge i l.length with h | h
  · obtain ⟨e1, ⟨rfl, h0, rfl⟩ | ⟨b, cap, cur, rfl, rfl, hnc, hcm, hsz, ht⟩⟩ := ho
    · omega
    · have hcm' : cap ≤ 9223372036854775807 := by simpa [maxLen] using hcm
      have e2 : cur.toList.take (i * 2) = ((l.take i).flatMap ceC) := by
        rw [← flat_take ceC_len l i, ← ht, List.take_take, Nat.min_eq_left (by omega)]
      have e3 : (cur.toList.take (l.length * 2)).drop (i * 2) = ((l.drop i).flatMap ceC) := by rw [ht, flat_drop ceC_len l i]
      have h1 : ∀ u ∈ cur.toList.take (l.length * 2), u.oneCell' = true := by rw [ht]; exact (one_ceC l)
      have h2 : ∀ u ∈ (#[(S x.1), (S x.2)] : Array Value).toList, u.oneCell' = true := (fun u_ hu_ => (one_ceC [x]) u_ (by simpa [ceC, iV] using hu_))
      have key : ∀ (e : Ending) (w' : World), (∃ v' hs', e = .returned v' ∧ Own 45 2 v' (l.length + 1) (cur.toList.take (i * 2) ++ (#[(S x.1), (S x.2)] : Array Value).toList ++ (cur.toList.take (l.length * 2)).drop (i * 2)) hs' ∧ Has E w' [hs', R]) →
          ∃ v' hs', e = .returned v' ∧ Own 45 2 v' (l.take i ++ [x] ++ l.drop i).length ((l.take i ++ [x] ++ l.drop i).flatMap ceC) hs' ∧ Has E w' [hs', R] := by
        rintro e w' ⟨v', hs', rfl, hO, hX⟩
        refine ⟨v', hs', rfl, ?_, hX⟩
        rw [e2, e3] at hO
        have e4 : (l.take i ++ [x] ++ l.drop i).length = l.length + 1 := by simp only [List.length_append, List.length_take, List.length_drop, List.length_cons, List.length_nil]; omega
        rw [e4, List.flatMap_append, List.flatMap_append, show ([x] : List Cel).flatMap ceC = [(S x.1), (S x.2)] from rfl]; exact hO
      rcases Nat.lt_or_ge cap (l.length + 1) with g | g
      · exact Calls.mono (cins_grow b bu l.length cap i cur #[(S x.1), (S x.2)] hH h hnc g hcm' hsz rfl (by omega) h1 h2) key
      · exact Calls.mono (cins_room b bu l.length cap i cur #[(S x.1), (S x.2)] hH h hnc g hcm' hsz rfl (by omega) h1 h2) key
  · have : i = l.length := by omega
    subst this
    rw [List.take_of_length_le (Nat.le_refl _), List.drop_of_length_le (Nat.le_refl _), List.append_nil]
    exact cins_end hH ho hl
end Go.Q
namespace Go.Q
open Go.Proofs
set_option linter.unusedVariables false
set_option maxRecDepth 100000
attribute [local irreducible] wpList OK Code.wp
set_option maxHeartbeats 4000000 in
theorem pset_c {E w : World} {R : List Hp} {no : Int} {gsn : Int} {v_l : Value} {l : List Cel} {key : Bs} {v : Bool × Bs} {g : Int}  (hH : Has E w [R]) (h_l : Sl R 2 v_l l.length (l.flatMap ceC)) (hn : l.length ≤ 1000) :
    Calls Tryd.prog 16 #[(.agg #[(.int .i64 no), (.int .i64 gsn), v_l]), (S key), (.agg #[(.bool v.1), (S v.2)]), (.int .i64 g)] w fun e w' => ∃ (v1' : Value) (s2' : List Hp), e = .returned (.tuple #[(.agg #[(.int .i64 (setNo no gsn l key v g)), (.int .i64 (setG no gsn l key v g)), v1']), (.int .i64 (setE no gsn l key v g))]) ∧ (Own 45 2 v1' (setL no gsn l key v g).length ((setL no gsn l key v g).flatMap ceC) s2') ∧ Has E w' [s2', R] := by
  refine c_enter (args := [(.agg #[(.int .i64 no), (.int .i64 gsn), v_l]), (S key), (.agg #[(.bool v.1), (S v.2)]), (.int .i64 g)]) Tryd.func16 rfl Tryd.ntmps16 (by simp) ?_
  refine wp_seq_k fun K1 hK1 => ?_
  refine c_region ?_
  refine s_op (o_box (cs := #[(.int .i64 no), (.int .i64 gsn), v_l]) rfl rfl hH fun b2 w3 hH4 => ?_)
  refine s_op (o_box (cs := #[(.bool v.1), (S v.2)]) rfl rfl hH4 fun b5 w6 hH7 => ?_)
  refine s_op (o_alloc (cs := #[(.int .i64 0), (.int .i64 0), (.slice none 0 0)]) ti24 rfl hH7 fun b8 w9 hH10 => ?_)
  refine s_op (o_assign (v := (.int .i64 0)) rfl ?_)
  refine s_nil ?_
  refine t_norm (hK1 _ _ ?_)
  refine wp_seq_k fun K11 hK11 => ?_
  refine wp_seq_k fun K12 hK12 => ?_
  refine c_region ?_
  refine s_op (o_loadN (cs := [(.int .i64 no), (.int .i64 gsn), v_l]) Tryd.underlying24 rfl ti24 rfl hH10 (seg_sub 2 rfl) (CellsAt.one rfl) ?_)
  refine s_op (o_callf (vs := #[(.agg #[(.int .i64 no), (.int .i64 gsn), v_l])]) ca10 rfl (args1 rfl) (pright_c (no := no) (gsn := gsn) (l := l) hH10.all (h_l.mono (seg_sub 3 rfl))) ?_)
  rintro _ w15 ⟨rfl, hX13⟩
  refine ⟨_, rfl, ?_⟩
  have hH14 := hX13.of_all
  refine s_op (o_not rfl ?_)
  refine s_op (o_move (v := (.bool (!(pageR no gsn l)))) rfl ?_)
  rcases Bool.eq_false_or_eq_true (!(pageR no gsn l)) with h16 | h16
  · -- !(pageR no gsn l)
    refine s_off (b' := true) 16 rfl (congrArg Value.bool h16) rfl ?_
    refine s_off (b' := true) 16 rfl (congrArg Value.bool h16) rfl ?_
    refine s_off (b' := true) 16 rfl (congrArg Value.bool h16) rfl ?_
    refine s_off (b' := true) 16 rfl (congrArg Value.bool h16) rfl ?_
    refine s_op (o_pick_t (u := (.bool true)) ((rfl : _ = _).trans (congrArg Value.bool h16)) rfl ?_)
    refine s_op (o_move (v := (.bool true)) rfl ?_)
    refine s_off (b' := true) 22 rfl rfl rfl ?_
    refine s_off (b' := true) 22 rfl rfl rfl ?_
    refine s_off (b' := true) 22 rfl rfl rfl ?_
    refine s_off (b' := true) 22 rfl rfl rfl ?_
    refine s_op (o_pick_t (u := (.bool true)) rfl rfl ?_)
    refine s_op (o_move (v := (.bool true)) rfl ?_)
    refine s_off (b' := true) 28 rfl rfl rfl ?_
    refine s_off (b' := true) 28 rfl rfl rfl ?_
    refine s_off (b' := true) 28 rfl rfl rfl ?_
    refine s_off (b' := true) 28 rfl rfl rfl ?_
    refine s_op (o_pick_t (u := (.bool true)) rfl rfl ?_)
    refine s_op (o_move (v := (.bool true)) rfl ?_)
    refine s_off (b' := true) 34 rfl rfl rfl ?_
    refine s_off (b' := true) 34 rfl rfl rfl ?_
    refine s_op (o_pick_t (u := (.bool true)) rfl rfl ?_)
    refine s_nil ?_
    refine t_norm (hK12 _ _ ?_)
    refine c_true rfl rfl ?_
    refine wp_seq_k fun K17 hK17 => ?_
    refine c_region ?_
    refine s_op (o_sight (v := (.agg #[(.int .i64 0), (.int .i64 0), (.slice none 0 0)])) (fun _ => by kernel_rfl) ?_)
    refine s_eff (o_storeN (vs := [(.int .i64 0), (.int .i64 0), (.slice none 0 0)]) (c' := #[(.int .i64 0), (.int .i64 0), (.slice none 0 0)]) ti24 rfl rfl rfl rfl (by intro u hu; simp only [List.mem_cons, List.not_mem_nil, or_false] at hu; rcases hu with rfl | rfl | rfl <;> first | rfl) (by simp) (by kernel_rfl) (hH14.front 0 rfl) fun w18 hH19 => ?_)
    refine s_op (o_assign (v := (.int .i64 1)) rfl ?_)
    refine s_nil ?_
    refine t_norm (hK17 _ _ ?_)
    refine wp_ret ?_
    refine t_ret (c_retC2 Tryd.results16 rfl (run_loadVarN (cs := [(.int .i64 0), (.int .i64 0), (.slice none 0 0)]) Tryd.underlying24 rfl ti24 hH19 (seg_sub 0 rfl) (CellsAt.one rfl)) (x := (.int .i64 1)) rfl ?_)
    have hE_ : setE no gsn l key v g = 1 := setE_bad (by first | exact .inl (by simpa using h16) | exact .inr (.inl (by simpa using h16)) | exact .inr (.inr (.inl (by simpa using h16))) | exact .inr (.inr (.inr (.inl (by omega)))) | exact .inr (.inr (.inr (.inr (by omega)))))
    have q20 : (setNo no gsn l key v g) = 0 := by unfold setNo; rw [if_neg (by rw [hE_]; decide)]
    have q21 : (setG no gsn l key v g) = 0 := by unfold setG; rw [if_neg (by rw [hE_]; decide)]
    have q22 : (setL no gsn l key v g) = ([] : List Cel) := by unfold setL; rw [if_neg (by rw [hE_]; decide)]
    have q23 : (setE no gsn l key v g) = 1 := by exact hE_
    have hH24 : Has E w18 [[], R] := (Has.nil (hH19.front 3 rfl)).first 2 rfl
    exact ⟨_, _, by rw [q20, q21]; rw [q23], (by rw [q22]; exact (Own.nil 45 2)), hH24⟩
  · -- not: !(pageR no gsn l)
    refine s_on 16 rfl (congrArg Value.bool h16) (o_move (v := (S key)) rfl ?_)
    refine s_on 16 rfl (congrArg Value.bool h16) (o_buildSlice (ps := #[(0, (S key))]) (cells := #[(S key)]) Tryd.underlying32 ti9 (by decide) (parts1 rfl) (by kernel_rfl) hH14 fun b25 w26 hH27 => ?_)
    refine s_on 16 rfl (congrArg Value.bool h16) (o_callf (vs := #[(.slice (some ⟨b25, 0, none⟩) 1 1)]) ca39 rfl (args1 rfl) (key_c (l := [key]) hH27.all ((sl_lit (f := sV) (l := [key]) rfl rfl (by simp)).mono (seg_sub 0 rfl))) ?_)
    rintro _ w30 ⟨rfl, hX28⟩
    refine ⟨_, rfl, ?_⟩
    have hH29 := hX28.of_all
    refine s_on 16 rfl (congrArg Value.bool h16) (o_not rfl ?_)
    refine s_op (o_pick_f (u := (.bool (!([key].all keyR)))) ((rfl : _ = _).trans (congrArg Value.bool h16)) rfl ?_)
    refine s_op (o_move (v := (.bool (!([key].all keyR)))) rfl ?_)
    rcases Bool.eq_false_or_eq_true (!([key].all keyR)) with h31 | h31
    · -- !([key].all keyR)
      refine s_off (b' := true) 22 rfl (congrArg Value.bool h31) rfl ?_
      refine s_off (b' := true) 22 rfl (congrArg Value.bool h31) rfl ?_
      refine s_off (b' := true) 22 rfl (congrArg Value.bool h31) rfl ?_
      refine s_off (b' := true) 22 rfl (congrArg Value.bool h31) rfl ?_
      refine s_op (o_pick_t (u := (.bool true)) ((rfl : _ = _).trans (congrArg Value.bool h31)) rfl ?_)
      refine s_op (o_move (v := (.bool true)) rfl ?_)
      refine s_off (b' := true) 28 rfl rfl rfl ?_
      refine s_off (b' := true) 28 rfl rfl rfl ?_
      refine s_off (b' := true) 28 rfl rfl rfl ?_
      refine s_off (b' := true) 28 rfl rfl rfl ?_
      refine s_op (o_pick_t (u := (.bool true)) rfl rfl ?_)
      refine s_op (o_move (v := (.bool true)) rfl ?_)
      refine s_off (b' := true) 34 rfl rfl rfl ?_
      refine s_off (b' := true) 34 rfl rfl rfl ?_
      refine s_op (o_pick_t (u := (.bool true)) rfl rfl ?_)
      refine s_nil ?_
      refine t_norm (hK12 _ _ ?_)
      refine c_true rfl rfl ?_
      refine wp_seq_k fun K32 hK32 => ?_
      refine c_region ?_
      refine s_op (o_sight (v := (.agg #[(.int .i64 0), (.int .i64 0), (.slice none 0 0)])) (fun _ => by kernel_rfl) ?_)
      refine s_eff (o_storeN (vs := [(.int .i64 0), (.int .i64 0), (.slice none 0 0)]) (c' := #[(.int .i64 0), (.int .i64 0), (.slice none 0 0)]) ti24 rfl rfl rfl rfl (by intro u hu; simp only [List.mem_cons, List.not_mem_nil, or_false] at hu; rcases hu with rfl | rfl | rfl <;> first | rfl) (by simp) (by kernel_rfl) (hH29.front 1 rfl) fun w33 hH34 => ?_)
      refine s_op (o_assign (v := (.int .i64 1)) rfl ?_)
      refine s_nil ?_
      refine t_norm (hK32 _ _ ?_)
      refine wp_ret ?_
      refine t_ret (c_retC2 Tryd.results16 rfl (run_loadVarN (cs := [(.int .i64 0), (.int .i64 0), (.slice none 0 0)]) Tryd.underlying24 rfl ti24 hH34 (seg_sub 0 rfl) (CellsAt.one rfl)) (x := (.int .i64 1)) rfl ?_)
      have hE_ : setE no gsn l key v g = 1 := setE_bad (by first | exact .inl (by simpa using h16) | exact .inr (.inl (by simpa using h16)) | exact .inr (.inr (.inl (by simpa using h16))) | exact .inl (by simpa using h31) | exact .inr (.inl (by simpa using h31)) | exact .inr (.inr (.inl (by simpa using h31))) | exact .inr (.inr (.inr (.inl (by omega)))) | exact .inr (.inr (.inr (.inr (by omega)))))
      have q35 : (setNo no gsn l key v g) = 0 := by unfold setNo; rw [if_neg (by rw [hE_]; decide)]
      have q36 : (setG no gsn l key v g) = 0 := by unfold setG; rw [if_neg (by rw [hE_]; decide)]
      have q37 : (setL no gsn l key v g) = ([] : List Cel) := by unfold setL; rw [if_neg (by rw [hE_]; decide)]
      have q38 : (setE no gsn l key v g) = 1 := by exact hE_
      have hH39 : Has E w33 [[], R] := (Has.nil (hH34.front 4 rfl)).first 2 rfl
      exact ⟨_, _, by rw [q35, q36]; rw [q38], (by rw [q37]; exact (Own.nil 45 2)), hH39⟩
    · -- not: !([key].all keyR)
      refine s_on 22 rfl (congrArg Value.bool h31) (o_loadN (cs := [(.bool v.1), (S v.2)]) Tryd.underlying29 rfl ti29 rfl hH29 (seg_sub 2 rfl) (CellsAt.one rfl) ?_)
      refine s_on 22 rfl (congrArg Value.bool h31) (o_buildSlice (ps := #[(0, (.agg #[(.bool v.1), (S v.2)]))]) (cells := #[(.bool v.1), (S v.2)]) Tryd.underlying33 ti29 (by decide) (parts1 rfl) (by kernel_rfl) hH29 fun b40 w41 hH42 => ?_)
      refine s_on 22 rfl (congrArg Value.bool h31) (o_callf (vs := #[(.slice (some ⟨b40, 0, none⟩) 1 1)]) ca40 rfl (args1 rfl) (value_c (l := [(v.1, v.2)]) hH42.all ((sl_litF (f := vlC) (l := [(v.1, v.2)]) vlC_len rfl rfl (by simp)).mono (seg_sub 0 rfl))) ?_)
      rintro _ w45 ⟨rfl, hX43⟩
      refine ⟨_, rfl, ?_⟩
      have hH44 := hX43.of_all
      refine s_on 22 rfl (congrArg Value.bool h31) (o_not rfl ?_)
      refine s_op (o_pick_f (u := (.bool (!([(v.1, v.2)].all valR)))) ((rfl : _ = _).trans (congrArg Value.bool h31)) rfl ?_)
      refine s_op (o_move (v := (.bool (!([(v.1, v.2)].all valR)))) rfl ?_)
      rcases Bool.eq_false_or_eq_true (!([(v.1, v.2)].all valR)) with h46 | h46
      · -- !([(v.1, v.2)].all valR)
        refine s_off (b' := true) 28 rfl (congrArg Value.bool h46) rfl ?_
        refine s_off (b' := true) 28 rfl (congrArg Value.bool h46) rfl ?_
        refine s_off (b' := true) 28 rfl (congrArg Value.bool h46) rfl ?_
        refine s_off (b' := true) 28 rfl (congrArg Value.bool h46) rfl ?_
        refine s_op (o_pick_t (u := (.bool true)) ((rfl : _ = _).trans (congrArg Value.bool h46)) rfl ?_)
        refine s_op (o_move (v := (.bool true)) rfl ?_)
        refine s_off (b' := true) 34 rfl rfl rfl ?_
        refine s_off (b' := true) 34 rfl rfl rfl ?_
        refine s_op (o_pick_t (u := (.bool true)) rfl rfl ?_)
        refine s_nil ?_
        refine t_norm (hK12 _ _ ?_)
        refine c_true rfl rfl ?_
        refine wp_seq_k fun K47 hK47 => ?_
        refine c_region ?_
        refine s_op (o_sight (v := (.agg #[(.int .i64 0), (.int .i64 0), (.slice none 0 0)])) (fun _ => by kernel_rfl) ?_)
        refine s_eff (o_storeN (vs := [(.int .i64 0), (.int .i64 0), (.slice none 0 0)]) (c' := #[(.int .i64 0), (.int .i64 0), (.slice none 0 0)]) ti24 rfl rfl rfl rfl (by intro u hu; simp only [List.mem_cons, List.not_mem_nil, or_false] at hu; rcases hu with rfl | rfl | rfl <;> first | rfl) (by simp) (by kernel_rfl) (hH44.front 2 rfl) fun w48 hH49 => ?_)
        refine s_op (o_assign (v := (.int .i64 1)) rfl ?_)
        refine s_nil ?_
        refine t_norm (hK47 _ _ ?_)
        refine wp_ret ?_
        refine t_ret (c_retC2 Tryd.results16 rfl (run_loadVarN (cs := [(.int .i64 0), (.int .i64 0), (.slice none 0 0)]) Tryd.underlying24 rfl ti24 hH49 (seg_sub 0 rfl) (CellsAt.one rfl)) (x := (.int .i64 1)) rfl ?_)
        have hE_ : setE no gsn l key v g = 1 := setE_bad (by first | exact .inl (by simpa using h16) | exact .inr (.inl (by simpa using h16)) | exact .inr (.inr (.inl (by simpa using h16))) | exact .inl (by simpa using h31) | exact .inr (.inl (by simpa using h31)) | exact .inr (.inr (.inl (by simpa using h31))) | exact .inl (by simpa using h46) | exact .inr (.inl (by simpa using h46)) | exact .inr (.inr (.inl (by simpa using h46))) | exact .inr (.inr (.inr (.inl (by omega)))) | exact .inr (.inr (.inr (.inr (by omega)))))
        have q50 : (setNo no gsn l key v g) = 0 := by unfold setNo; rw [if_neg (by rw [hE_]; decide)]
        have q51 : (setG no gsn l key v g) = 0 := by unfold setG; rw [if_neg (by rw [hE_]; decide)]
        have q52 : (setL no gsn l key v g) = ([] : List Cel) := by unfold setL; rw [if_neg (by rw [hE_]; decide)]
        have q53 : (setE no gsn l key v g) = 1 := by exact hE_
        have hH54 : Has E w48 [[], R] := (Has.nil (hH49.front 5 rfl)).first 2 rfl
        exact ⟨_, _, by rw [q50, q51]; rw [q53], (by rw [q52]; exact (Own.nil 45 2)), hH54⟩
      · -- not: !([(v.1, v.2)].all valR)
        refine s_on 28 rfl (congrArg Value.bool h46) (o_move (v := (.int .i64 g)) rfl ?_)
        refine s_on 28 rfl (congrArg Value.bool h46) (o_fieldAddr (k := 1) (fun _ => by kernel_rfl) rfl ?_)
        refine s_on 28 rfl (congrArg Value.bool h46) (o_load1 (v := (.int .i64 gsn)) Tryd.underlying3 rfl rfl hH44 (seg_sub 4 rfl) (CellsAt.one rfl) ?_)
        refine s_on 28 rfl (congrArg Value.bool h46) (o_leq (a := g) (b := gsn) rfl rfl ?_)
        refine s_op (o_pick_f (u := (.bool (decide (g ≤ gsn)))) ((rfl : _ = _).trans (congrArg Value.bool h46)) rfl ?_)
        refine s_op (o_move (v := (.bool (decide (g ≤ gsn)))) rfl ?_)
        by_cases h55 : g ≤ gsn
        · -- g ≤ gsn
          refine s_off (b' := true) 34 rfl (congrArg Value.bool (decide_eq_true h55)) rfl ?_
          refine s_off (b' := true) 34 rfl (congrArg Value.bool (decide_eq_true h55)) rfl ?_
          refine s_op (o_pick_t (u := (.bool true)) ((rfl : _ = _).trans (congrArg Value.bool (decide_eq_true h55))) rfl ?_)
          refine s_nil ?_
          refine t_norm (hK12 _ _ ?_)
          refine c_true rfl rfl ?_
          refine wp_seq_k fun K56 hK56 => ?_
          refine c_region ?_
          refine s_op (o_sight (v := (.agg #[(.int .i64 0), (.int .i64 0), (.slice none 0 0)])) (fun _ => by kernel_rfl) ?_)
          refine s_eff (o_storeN (vs := [(.int .i64 0), (.int .i64 0), (.slice none 0 0)]) (c' := #[(.int .i64 0), (.int .i64 0), (.slice none 0 0)]) ti24 rfl rfl rfl rfl (by intro u hu; simp only [List.mem_cons, List.not_mem_nil, or_false] at hu; rcases hu with rfl | rfl | rfl <;> first | rfl) (by simp) (by kernel_rfl) (hH44.front 2 rfl) fun w57 hH58 => ?_)
          refine s_op (o_assign (v := (.int .i64 1)) rfl ?_)
          refine s_nil ?_
          refine t_norm (hK56 _ _ ?_)
          refine wp_ret ?_
          refine t_ret (c_retC2 Tryd.results16 rfl (run_loadVarN (cs := [(.int .i64 0), (.int .i64 0), (.slice none 0 0)]) Tryd.underlying24 rfl ti24 hH58 (seg_sub 0 rfl) (CellsAt.one rfl)) (x := (.int .i64 1)) rfl ?_)
          have hE_ : setE no gsn l key v g = 1 := setE_bad (by first | exact .inl (by simpa using h16) | exact .inr (.inl (by simpa using h16)) | exact .inr (.inr (.inl (by simpa using h16))) | exact .inl (by simpa using h31) | exact .inr (.inl (by simpa using h31)) | exact .inr (.inr (.inl (by simpa using h31))) | exact .inl (by simpa using h46) | exact .inr (.inl (by simpa using h46)) | exact .inr (.inr (.inl (by simpa using h46))) | exact .inl (by simpa using h55) | exact .inr (.inl (by simpa using h55)) | exact .inr (.inr (.inl (by simpa using h55))) | exact .inr (.inr (.inr (.inl (by omega)))) | exact .inr (.inr (.inr (.inr (by omega)))))
          have q59 : (setNo no gsn l key v g) = 0 := by unfold setNo; rw [if_neg (by rw [hE_]; decide)]
          have q60 : (setG no gsn l key v g) = 0 := by unfold setG; rw [if_neg (by rw [hE_]; decide)]
          have q61 : (setL no gsn l key v g) = ([] : List Cel) := by unfold setL; rw [if_neg (by rw [hE_]; decide)]
          have q62 : (setE no gsn l key v g) = 1 := by exact hE_
          have hH63 : Has E w57 [[], R] := (Has.nil (hH58.front 5 rfl)).first 2 rfl
          exact ⟨_, _, by rw [q59, q60]; rw [q62], (by rw [q61]; exact (Own.nil 45 2)), hH63⟩
        · -- not: g ≤ gsn
          refine s_on 34 rfl (congrArg Value.bool (decide_eq_false h55)) (o_move (v := (.int .i64 g)) rfl ?_)
          refine s_on 34 rfl (congrArg Value.bool (decide_eq_false h55)) (o_gtr (a := g) (b := 4611686018427387903) rfl rfl ?_)
          refine s_op (o_pick_f (u := (.bool (decide (4611686018427387903 < g)))) ((rfl : _ = _).trans (congrArg Value.bool (decide_eq_false h55))) rfl ?_)
          refine s_nil ?_
          refine t_norm (hK12 _ _ ?_)
          refine c_cond rfl (fun h64 => ?_) (fun h64 => ?_)
          · -- 4611686018427387903 < g
            refine wp_seq_k fun K65 hK65 => ?_
            refine c_region ?_
            refine s_op (o_sight (v := (.agg #[(.int .i64 0), (.int .i64 0), (.slice none 0 0)])) (fun _ => by kernel_rfl) ?_)
            refine s_eff (o_storeN (vs := [(.int .i64 0), (.int .i64 0), (.slice none 0 0)]) (c' := #[(.int .i64 0), (.int .i64 0), (.slice none 0 0)]) ti24 rfl rfl rfl rfl (by intro u hu; simp only [List.mem_cons, List.not_mem_nil, or_false] at hu; rcases hu with rfl | rfl | rfl <;> first | rfl) (by simp) (by kernel_rfl) (hH44.front 2 rfl) fun w66 hH67 => ?_)
            refine s_op (o_assign (v := (.int .i64 1)) rfl ?_)
            refine s_nil ?_
            refine t_norm (hK65 _ _ ?_)
            refine wp_ret ?_
            refine t_ret (c_retC2 Tryd.results16 rfl (run_loadVarN (cs := [(.int .i64 0), (.int .i64 0), (.slice none 0 0)]) Tryd.underlying24 rfl ti24 hH67 (seg_sub 0 rfl) (CellsAt.one rfl)) (x := (.int .i64 1)) rfl ?_)
            have hE_ : setE no gsn l key v g = 1 := setE_bad (by first | exact .inl (by simpa using h16) | exact .inr (.inl (by simpa using h16)) | exact .inr (.inr (.inl (by simpa using h16))) | exact .inl (by simpa using h31) | exact .inr (.inl (by simpa using h31)) | exact .inr (.inr (.inl (by simpa using h31))) | exact .inl (by simpa using h46) | exact .inr (.inl (by simpa using h46)) | exact .inr (.inr (.inl (by simpa using h46))) | exact .inl (by simpa using h55) | exact .inr (.inl (by simpa using h55)) | exact .inr (.inr (.inl (by simpa using h55))) | exact .inl (by simpa using h64) | exact .inr (.inl (by simpa using h64)) | exact .inr (.inr (.inl (by simpa using h64))) | exact .inr (.inr (.inr (.inl (by omega)))) | exact .inr (.inr (.inr (.inr (by omega)))))
            have q68 : (setNo no gsn l key v g) = 0 := by unfold setNo; rw [if_neg (by rw [hE_]; decide)]
            have q69 : (setG no gsn l key v g) = 0 := by unfold setG; rw [if_neg (by rw [hE_]; decide)]
            have q70 : (setL no gsn l key v g) = ([] : List Cel) := by unfold setL; rw [if_neg (by rw [hE_]; decide)]
            have q71 : (setE no gsn l key v g) = 1 := by exact hE_
            have hH72 : Has E w66 [[], R] := (Has.nil (hH67.front 5 rfl)).first 2 rfl
            exact ⟨_, _, by rw [q68, q69]; rw [q71], (by rw [q70]; exact (Own.nil 45 2)), hH72⟩
          · -- not: 4611686018427387903 < g
            have hP_ := pageR_iff.1 (by first | (simpa using h16))
            have hC_ := cellsR_iff.1 hP_.2
            have hs := hC_.2.1
            have hl := hC_.2.2
            have hok_ := setE_ok (g := g) (v := v) (key := key) (by first | (simpa using h16)) (by first | (simpa using h31)) (by first | (simpa using h46)) (by omega) (by omega)
            refine wp_skip ?_
            refine t_norm (hK11 _ _ ?_)
            refine wp_seq_k fun K73 hK73 => ?_
            refine c_region ?_
            refine s_op (o_loadN (cs := [(.int .i64 no), (.int .i64 gsn), v_l]) Tryd.underlying24 rfl ti24 rfl hH44 (seg_sub 4 rfl) (CellsAt.one rfl) ?_)
            refine s_op (o_move (v := (S key)) rfl ?_)
            refine s_op (o_callf (vs := #[(.agg #[(.int .i64 no), (.int .i64 gsn), v_l]), (S key)]) ca41 rfl (args2 rfl rfl) (find_c (no := no) (gsn := gsn) (l := l) (key := key) hH44.all (h_l.mono (seg_sub 5 rfl)) (by first | omega | (simp only []; omega) | (simp; done) | (simp; omega)) (by first | omega | (simp only []; omega) | (simp; done) | (simp; omega))) ?_)
            rintro _ w76 ⟨rfl, hX74⟩
            refine ⟨_, rfl, ?_⟩
            have hH75 := hX74.of_all
            have hpc_ := posC_le l key
            refine s_op (o_move (v := (.tuple #[(.int .i64 (posC l key)), (.bool (hasC l key))])) rfl ?_)
            refine s_op (o_extract (v := (.int .i64 (posC l key))) rfl rfl ?_)
            refine s_op (o_extract (v := (.bool (hasC l key))) rfl rfl ?_)
            refine s_op (o_assign (v := (.int .i64 (posC l key))) rfl ?_)
            refine s_op (o_assign (v := (.bool (hasC l key))) rfl ?_)
            refine s_nil ?_
            refine t_norm (hK73 _ _ ?_)
            refine wp_seq_k fun K77 hK77 => ?_
            refine c_region ?_
            refine s_op (o_fieldAddr (k := 2) (fun _ => by kernel_rfl) rfl ?_)
            refine s_op (o_load1 (v := v_l) Tryd.underlying22 rfl rfl hH75 (seg_sub 4 rfl) (CellsAt.one rfl) ?_)
            refine s_op (o_callf (vs := #[v_l]) ca42 rfl (args1 rfl) (cclone_c (l := l) hH75.all (h_l.mono (seg_sub 5 rfl)) (by first | omega | (simp only []; omega) | (simp; done) | (simp; omega))) ?_)
            rintro _ w83 ⟨v78, s79, rfl, ho80, hX81⟩
            refine ⟨_, rfl, ?_⟩
            have hH82 : Has E w83 [s79, [Hp.one b40 (.cells #[(.bool v.1), (S v.2)] 29 (0, 0))], [Hp.one b25 (.cells #[(S key)] 9 (0, 0))], [Hp.one b8 (.cells #[(.int .i64 0), (.int .i64 0), (.slice none 0 0)] 24 (0, 0))], [Hp.one b5 (.cells #[(.bool v.1), (S v.2)] 29 (0, 0))], [Hp.one b2 (.cells #[(.int .i64 no), (.int .i64 gsn), v_l] 24 (0, 0))], R] := hX81.of_all1
            refine s_op (o_assign (v := v78) rfl ?_)
            refine s_nil ?_
            refine t_norm (hK77 _ _ ?_)
            refine wp_seq_k fun K84 hK84 => ?_
            refine wp_block ?_
            refine wp_seq_k fun K85 hK85 => ?_
            refine c_region ?_
            refine s_op (o_fieldAddr (k := 0) (fun _ => by kernel_rfl) rfl ?_)
            refine s_op (o_load1 (v := (.bool v.1)) Tryd.underlying4 rfl rfl hH82 (seg_sub 4 rfl) (CellsAt.one rfl) ?_)
            refine s_op (o_not rfl ?_)
            refine s_op (o_move (v := (.bool (!v.1))) rfl ?_)
            rcases Bool.eq_false_or_eq_true (!v.1) with h86 | h86
            · -- !v.1
              refine s_on 60 rfl (congrArg Value.bool h86) (o_move (v := (.bool (hasC l key))) rfl ?_)
              refine s_on 60 rfl (congrArg Value.bool h86) (o_not rfl ?_)
              refine s_op (o_pick_t (u := (.bool (!(hasC l key)))) ((rfl : _ = _).trans (congrArg Value.bool h86)) rfl ?_)
              refine s_op (o_assign (v := (.bool (!(hasC l key)))) rfl ?_)
              refine s_nil ?_
              refine t_norm (hK85 _ _ ?_)
              refine c_condb rfl (fun h87 => ?_) (fun h87 => ?_)
              · -- !(hasC l key)
                have h87_n : (hasC l key) = false := by simpa using h87
                refine wp_seq_k fun K88 hK88 => ?_
                refine c_region ?_
                refine s_op (o_sight (v := (.agg #[(.int .i64 0), (.int .i64 0), (.slice none 0 0)])) (fun _ => by kernel_rfl) ?_)
                refine s_eff (o_storeN (vs := [(.int .i64 0), (.int .i64 0), (.slice none 0 0)]) (c' := #[(.int .i64 0), (.int .i64 0), (.slice none 0 0)]) ti24 rfl rfl rfl rfl (by intro u hu; simp only [List.mem_cons, List.not_mem_nil, or_false] at hu; rcases hu with rfl | rfl | rfl <;> first | rfl) (by simp) (by kernel_rfl) (hH82.front 3 rfl) fun w89 hH90 => ?_)
                refine s_op (o_assign (v := (.int .i64 7)) rfl ?_)
                refine s_nil ?_
                refine t_norm (hK88 _ _ ?_)
                refine wp_ret ?_
                refine b_ret (t_ret (c_retC2 Tryd.results16 rfl (run_loadVarN (cs := [(.int .i64 0), (.int .i64 0), (.slice none 0 0)]) Tryd.underlying24 rfl ti24 hH90 (seg_sub 0 rfl) (CellsAt.one rfl)) (x := (.int .i64 7)) rfl ?_))
                have hv1_ : v.1 = false := (by first | (simpa using h86))
                have hE_ : setE no gsn l key v g = 7 := by rw [hok_]; simp [h87, h87_n, hv1_]; try omega
                have q91 : (setNo no gsn l key v g) = 0 := by unfold setNo; rw [if_neg (by rw [hE_]; decide)]
                have q92 : (setG no gsn l key v g) = 0 := by unfold setG; rw [if_neg (by rw [hE_]; decide)]
                have q93 : (setL no gsn l key v g) = ([] : List Cel) := by unfold setL; rw [if_neg (by rw [hE_]; decide)]
                have q94 : (setE no gsn l key v g) = 7 := by exact hE_
                have hH95 : Has E w89 [[], R] := (Has.nil (hH90.front 6 rfl)).first 2 rfl
                exact ⟨_, _, by rw [q91, q92]; rw [q94], (by rw [q93]; exact (Own.nil 45 2)), hH95⟩
              · -- not: !(hasC l key)
                have h87_n : (hasC l key) = true := by simpa using h87
                obtain ⟨hpl_, v0_, hx0_⟩ := hasC_at hs (by simpa using h87)
                refine wp_seq_k fun K96 hK96 => ?_
                refine c_region ?_
                refine s_op (o_fieldAddr (k := 0) (fun _ => by kernel_rfl) rfl ?_)
                refine s_op (o_load1 (v := (.bool v.1)) Tryd.underlying4 rfl rfl hH82 (seg_sub 4 rfl) (CellsAt.one rfl) ?_)
                refine s_op (o_not rfl ?_)
                refine s_op (o_assign (v := (.bool (!v.1))) rfl ?_)
                refine s_nil ?_
                refine t_norm (hK96 _ _ ?_)
                refine c_true rfl h86 ?_
                refine c_region ?_
                refine s_op (o_move (v := v78) rfl ?_)
                refine s_op (o_move (v := (.int .i64 (posC l key))) rfl ?_)
                refine s_op (o_move (v := (.int .i64 (posC l key))) rfl ?_)
                refine s_op (o_add (a := (posC l key)) (b := 1) rfl rfl (w64 (by omega) (by omega)) ?_)
                obtain ⟨ni100, hni100⟩ : ∃ n_ : Nat, (posC l key) = (n_ : Int) := ⟨((posC l key)).toNat, by omega⟩
                have hni100_ : ((posC l key)).toNat = ni100 := by omega
                refine s_op (o_callf (vs := #[v78, (.int .i64 (posC l key)), (.int .i64 ((posC l key) + 1))]) ca43 rfl (args3 rfl rfl rfl) ((by rw [hni100]; exact cdel_own (l := l) ni100 (by omega) hH82.all1 ho80 (by omega))) ?_)
                rintro _ w103 ⟨v97, s98, rfl, ho99, hX101⟩
                refine ⟨_, rfl, ?_⟩
                have hH102 : Has E w103 [s98, [Hp.one b40 (.cells #[(.bool v.1), (S v.2)] 29 (0, 0))], [Hp.one b25 (.cells #[(S key)] 9 (0, 0))], [Hp.one b8 (.cells #[(.int .i64 0), (.int .i64 0), (.slice none 0 0)] 24 (0, 0))], [Hp.one b5 (.cells #[(.bool v.1), (S v.2)] 29 (0, 0))], [Hp.one b2 (.cells #[(.int .i64 no), (.int .i64 gsn), v_l] 24 (0, 0))], R] := hX101.of_all1
                refine s_op (o_assign (v := v97) rfl ?_)
                refine s_nil ?_
                refine b_norm ?_
                refine t_norm (hK84 _ _ ?_)
                refine wp_seq_k fun K104 hK104 => ?_
                refine c_region ?_
                refine s_op (o_fieldAddr (k := 0) (fun _ => by kernel_rfl) rfl ?_)
                refine s_op (o_load1 (v := (.int .i64 no)) Tryd.underlying3 rfl rfl hH102 (seg_sub 5 rfl) (CellsAt.one rfl) ?_)
                refine s_op (o_move (v := (.int .i64 g)) rfl ?_)
                refine s_op (o_move (v := v97) rfl ?_)
                obtain ⟨p105, c106, rfl⟩ := Sl.form (Own.sl ho99)
                refine s_op (o_sight (v := (.agg #[(.int .i64 no), (.int .i64 g), (.slice p105 (l.take ni100 ++ l.drop (ni100 + 1)).length c106)])) (fun _ => by kernel_rfl) ?_)
                refine s_eff (o_storeN (vs := [(.int .i64 no), (.int .i64 g), (.slice p105 (l.take ni100 ++ l.drop (ni100 + 1)).length c106)]) (c' := #[(.int .i64 no), (.int .i64 g), (.slice p105 (l.take ni100 ++ l.drop (ni100 + 1)).length c106)]) ti24 rfl rfl rfl rfl (by intro u hu; simp only [List.mem_cons, List.not_mem_nil, or_false] at hu; rcases hu with rfl | rfl | rfl <;> first | rfl | exact ho99.one) (by simp) (by kernel_rfl) (hH102.front 3 rfl) fun w107 hH108 => ?_)
                refine s_op (o_assign (v := (.int .i64 0)) rfl ?_)
                refine s_nil ?_
                refine t_norm (hK104 _ _ ?_)
                refine wp_ret ?_
                refine c_retC2 Tryd.results16 rfl (run_loadVarN (cs := [(.int .i64 no), (.int .i64 g), (.slice p105 (l.take ni100 ++ l.drop (ni100 + 1)).length c106)]) Tryd.underlying24 rfl ti24 hH108 (seg_sub 0 rfl) (CellsAt.one rfl)) (x := (.int .i64 0)) rfl ?_
                have hv1_ : v.1 = false := (by first | (simpa using h86))
                have hE_ : setE no gsn l key v g = 0 := by rw [hok_]; simp [h87, h87_n, hv1_]; try omega
                have q109 : (setNo no gsn l key v g) = no := by unfold setNo; rw [if_pos hE_]
                have q110 : (setG no gsn l key v g) = g := by unfold setG; rw [if_pos hE_]
                have q111 : (setL no gsn l key v g) = (l.take ni100 ++ l.drop (ni100 + 1)) := by unfold setL; rw [if_pos hE_]; unfold setC; simp [h87, h87_n, hv1_, hni100_]
                have q112 : (setE no gsn l key v g) = 0 := by exact hE_
                have hH113 : Has E w107 [s98, R] := ((hH108.front 6 rfl).front 2 rfl).first 2 rfl
                exact ⟨_, _, by rw [q109, q110]; rw [q112], (by rw [q111]; exact ho99), hH113⟩
            · -- not: !v.1
              refine s_off (b' := false) 60 rfl (congrArg Value.bool h86) rfl ?_
              refine s_off (b' := false) 60 rfl (congrArg Value.bool h86) rfl ?_
              refine s_op (o_pick_f (u := (.bool false)) ((rfl : _ = _).trans (congrArg Value.bool h86)) rfl ?_)
              refine s_op (o_assign (v := (.bool false)) rfl ?_)
              refine s_nil ?_
              refine t_norm (hK85 _ _ ?_)
              refine c_false rfl rfl ?_
              refine wp_seq_k fun K114 hK114 => ?_
              refine c_region ?_
              refine s_op (o_fieldAddr (k := 0) (fun _ => by kernel_rfl) rfl ?_)
              refine s_op (o_load1 (v := (.bool v.1)) Tryd.underlying4 rfl rfl hH82 (seg_sub 4 rfl) (CellsAt.one rfl) ?_)
              refine s_op (o_not rfl ?_)
              refine s_op (o_assign (v := (.bool (!v.1))) rfl ?_)
              refine s_nil ?_
              refine t_norm (hK114 _ _ ?_)
              refine c_false rfl h86 ?_
              refine wp_seq_k fun K115 hK115 => ?_
              refine c_region ?_
              refine s_op (o_move (v := (.bool (hasC l key))) rfl ?_)
              refine s_op (o_assign (v := (.bool (hasC l key))) rfl ?_)
              refine s_nil ?_
              refine t_norm (hK115 _ _ ?_)
              refine c_condb rfl (fun h116 => ?_) (fun h116 => ?_)
              · -- (hasC l key)
                obtain ⟨hpl_, v0_, hx0_⟩ := hasC_at hs (by simpa using h116)
                refine c_region ?_
                refine s_op (o_move (v := v78) rfl ?_)
                refine s_op (o_move (v := (.int .i64 (posC l key))) rfl ?_)
                refine s_op (o_fieldAddr (k := 1) (fun _ => by kernel_rfl) rfl ?_)
                refine s_op (o_load1 (v := (S v.2)) Tryd.underlying9 rfl rfl hH82 (seg_sub 4 rfl) (CellsAt.one rfl) ?_)
                refine s_op (o_ownAddrF Tryd.underlying22 ti45 rfl ho80 rfl (by omega) (by first | omega | (simp only [List.length_append, List.length_cons, List.length_nil, List.length_set]; omega)) fun b117 ho118 => ?_)
                refine s_op (o_fieldAddr (k := ((posC l key)).toNat * 2 + 1) (fun _ => by kernel_rfl) rfl ?_)
                refine s_eff (o_ownStoreC (f := ceC) (l := l) (a := ((key, v0_) : Cel)) (a' := ((((key, v0_) : Cel).1, v.2) : Cel)) (i := ((posC l key)).toNat) (k := 1) ceC_len ti9 rfl rfl rfl (by decide) hx0_ rfl ho118 (by first | rfl | (simp only [List.length_append, List.length_cons, List.length_nil, List.length_set]; done) | simp) hH82 fun s119 w120 ho121 hH122 => ?_)
                refine s_nil ?_
                refine b_norm ?_
                refine t_norm (hK84 _ _ ?_)
                refine wp_seq_k fun K123 hK123 => ?_
                refine c_region ?_
                refine s_op (o_fieldAddr (k := 0) (fun _ => by kernel_rfl) rfl ?_)
                refine s_op (o_load1 (v := (.int .i64 no)) Tryd.underlying3 rfl rfl hH122 (seg_sub 5 rfl) (CellsAt.one rfl) ?_)
                refine s_op (o_move (v := (.int .i64 g)) rfl ?_)
                refine s_op (o_move (v := v78) rfl ?_)
                obtain ⟨p124, c125, rfl⟩ := Sl.form (Own.sl ho121)
                refine s_op (o_sight (v := (.agg #[(.int .i64 no), (.int .i64 g), (.slice p124 (l.set (((posC l key)).toNat) ((((key, v0_) : Cel).1, v.2) : Cel)).length c125)])) (fun _ => by kernel_rfl) ?_)
                refine s_eff (o_storeN (vs := [(.int .i64 no), (.int .i64 g), (.slice p124 (l.set (((posC l key)).toNat) ((((key, v0_) : Cel).1, v.2) : Cel)).length c125)]) (c' := #[(.int .i64 no), (.int .i64 g), (.slice p124 (l.set (((posC l key)).toNat) ((((key, v0_) : Cel).1, v.2) : Cel)).length c125)]) ti24 rfl rfl rfl rfl (by intro u hu; simp only [List.mem_cons, List.not_mem_nil, or_false] at hu; rcases hu with rfl | rfl | rfl <;> first | rfl | exact ho121.one) (by simp) (by kernel_rfl) (hH122.front 3 rfl) fun w126 hH127 => ?_)
                refine s_op (o_assign (v := (.int .i64 0)) rfl ?_)
                refine s_nil ?_
                refine t_norm (hK123 _ _ ?_)
                refine wp_ret ?_
                refine c_retC2 Tryd.results16 rfl (run_loadVarN (cs := [(.int .i64 no), (.int .i64 g), (.slice p124 (l.set (((posC l key)).toNat) ((((key, v0_) : Cel).1, v.2) : Cel)).length c125)]) Tryd.underlying24 rfl ti24 hH127 (seg_sub 0 rfl) (CellsAt.one rfl)) (x := (.int .i64 0)) rfl ?_
                have hv1_ : v.1 = true := (by first | (simpa using h86))
                have hE_ : setE no gsn l key v g = 0 := by rw [hok_]; simp [h116, hv1_]; try omega
                have q128 : (setNo no gsn l key v g) = no := by unfold setNo; rw [if_pos hE_]
                have q129 : (setG no gsn l key v g) = g := by unfold setG; rw [if_pos hE_]
                have q130 : (setL no gsn l key v g) = (l.set (((posC l key)).toNat) ((((key, v0_) : Cel).1, v.2) : Cel)) := by unfold setL; rw [if_pos hE_]; unfold setC; simp [h116, hv1_]
                have q131 : (setE no gsn l key v g) = 0 := by exact hE_
                have hH132 : Has E w126 [s119, R] := ((hH127.front 6 rfl).front 2 rfl).first 2 rfl
                exact ⟨_, _, by rw [q128, q129]; rw [q131], (by rw [q130]; exact ho121), hH132⟩
              · -- not: (hasC l key)
                refine wp_seq_k fun K133 hK133 => ?_
                refine c_region ?_
                refine s_op (o_move (v := v78) rfl ?_)
                refine s_op (o_lenS Tryd.underlying22 rfl ho80.sl ?_)
                refine s_op (o_geq (a := ((l.length : Nat) : Int)) (b := 8) rfl rfl ?_)
                refine s_op (o_assign (v := (.bool (decide (8 ≤ ((l.length : Nat) : Int))))) rfl ?_)
                refine s_nil ?_
                refine t_norm (hK133 _ _ ?_)
                refine c_cond rfl (fun h134 => ?_) (fun h134 => ?_)
                · -- 8 ≤ ((l.length : Nat) : Int)
                  refine wp_seq_k fun K135 hK135 => ?_
                  refine c_region ?_
                  refine s_op (o_sight (v := (.agg #[(.int .i64 0), (.int .i64 0), (.slice none 0 0)])) (fun _ => by kernel_rfl) ?_)
                  refine s_eff (o_storeN (vs := [(.int .i64 0), (.int .i64 0), (.slice none 0 0)]) (c' := #[(.int .i64 0), (.int .i64 0), (.slice none 0 0)]) ti24 rfl rfl rfl rfl (by intro u hu; simp only [List.mem_cons, List.not_mem_nil, or_false] at hu; rcases hu with rfl | rfl | rfl <;> first | rfl) (by simp) (by kernel_rfl) (hH82.front 3 rfl) fun w136 hH137 => ?_)
                  refine s_op (o_assign (v := (.int .i64 4)) rfl ?_)
                  refine s_nil ?_
                  refine t_norm (hK135 _ _ ?_)
                  refine wp_ret ?_
                  refine b_ret (t_ret (c_retC2 Tryd.results16 rfl (run_loadVarN (cs := [(.int .i64 0), (.int .i64 0), (.slice none 0 0)]) Tryd.underlying24 rfl ti24 hH137 (seg_sub 0 rfl) (CellsAt.one rfl)) (x := (.int .i64 4)) rfl ?_))
                  have hv1_ : v.1 = true := (by first | (simpa using h86))
                  have hE_ : setE no gsn l key v g = 4 := by rw [hok_]; simp [h116, h134, hv1_]; try omega
                  have q138 : (setNo no gsn l key v g) = 0 := by unfold setNo; rw [if_neg (by rw [hE_]; decide)]
                  have q139 : (setG no gsn l key v g) = 0 := by unfold setG; rw [if_neg (by rw [hE_]; decide)]
                  have q140 : (setL no gsn l key v g) = ([] : List Cel) := by unfold setL; rw [if_neg (by rw [hE_]; decide)]
                  have q141 : (setE no gsn l key v g) = 4 := by exact hE_
                  have hH142 : Has E w136 [[], R] := (Has.nil (hH137.front 6 rfl)).first 2 rfl
                  exact ⟨_, _, by rw [q138, q139]; rw [q141], (by rw [q140]; exact (Own.nil 45 2)), hH142⟩
                · -- not: 8 ≤ ((l.length : Nat) : Int)
                  refine c_region ?_
                  refine s_op (o_move (v := v78) rfl ?_)
                  refine s_op (o_move (v := (.int .i64 (posC l key))) rfl ?_)
                  refine s_op (o_move (v := (S key)) rfl ?_)
                  refine s_op (o_fieldAddr (k := 1) (fun _ => by kernel_rfl) rfl ?_)
                  refine s_op (o_load1 (v := (S v.2)) Tryd.underlying9 rfl rfl hH82 (seg_sub 4 rfl) (CellsAt.one rfl) ?_)
                  refine s_op (o_sight (v := (.agg #[(S key), (S v.2)])) (fun _ => by kernel_rfl) ?_)
                  refine s_op (o_buildSlice (ps := #[(0, (.agg #[(S key), (S v.2)]))]) (cells := #[(S key), (S v.2)]) Tryd.underlying22 ti45 (by decide) (parts1 rfl) (by kernel_rfl) hH82 fun b143 w144 hH145 => ?_)
                  obtain ⟨ni149, hni149⟩ : ∃ n_ : Nat, (posC l key) = (n_ : Int) := ⟨((posC l key)).toNat, by omega⟩
                  have hni149_ : ((posC l key)).toNat = ni149 := by omega
                  refine s_op (o_callf (vs := #[v78, (.int .i64 (posC l key)), (.slice (some ⟨b143, 0, none⟩) 1 1)]) ca44 rfl (args3 rfl rfl rfl) ((by rw [hni149]; exact cins_own (l := l) (x := ((key, v.2) : Cel)) ni149 (by omega) (hH145.front 1 rfl).all2 ho80 (by omega))) ?_)
                  rintro _ w152 ⟨v146, s147, rfl, ho148, hX150⟩
                  refine ⟨_, rfl, ?_⟩
                  have hH151 : Has E w152 [s147, [Hp.one b40 (.cells #[(.bool v.1), (S v.2)] 29 (0, 0))], [Hp.one b25 (.cells #[(S key)] 9 (0, 0))], [Hp.one b8 (.cells #[(.int .i64 0), (.int .i64 0), (.slice none 0 0)] 24 (0, 0))], [Hp.one b5 (.cells #[(.bool v.1), (S v.2)] 29 (0, 0))], [Hp.one b2 (.cells #[(.int .i64 no), (.int .i64 gsn), v_l] 24 (0, 0))], R] := hX150.of_all1
                  refine s_op (o_assign (v := v146) rfl ?_)
                  refine s_nil ?_
                  refine b_norm ?_
                  refine t_norm (hK84 _ _ ?_)
                  refine wp_seq_k fun K153 hK153 => ?_
                  refine c_region ?_
                  refine s_op (o_fieldAddr (k := 0) (fun _ => by kernel_rfl) rfl ?_)
                  refine s_op (o_load1 (v := (.int .i64 no)) Tryd.underlying3 rfl rfl hH151 (seg_sub 5 rfl) (CellsAt.one rfl) ?_)
                  refine s_op (o_move (v := (.int .i64 g)) rfl ?_)
                  refine s_op (o_move (v := v146) rfl ?_)
                  obtain ⟨p154, c155, rfl⟩ := Sl.form (Own.sl ho148)
                  refine s_op (o_sight (v := (.agg #[(.int .i64 no), (.int .i64 g), (.slice p154 (insAt l ni149 ((key, v.2) : Cel)).length c155)])) (fun _ => by kernel_rfl) ?_)
                  refine s_eff (o_storeN (vs := [(.int .i64 no), (.int .i64 g), (.slice p154 (insAt l ni149 ((key, v.2) : Cel)).length c155)]) (c' := #[(.int .i64 no), (.int .i64 g), (.slice p154 (insAt l ni149 ((key, v.2) : Cel)).length c155)]) ti24 rfl rfl rfl rfl (by intro u hu; simp only [List.mem_cons, List.not_mem_nil, or_false] at hu; rcases hu with rfl | rfl | rfl <;> first | rfl | exact ho148.one) (by simp) (by kernel_rfl) (hH151.front 3 rfl) fun w156 hH157 => ?_)
                  refine s_op (o_assign (v := (.int .i64 0)) rfl ?_)
                  refine s_nil ?_
                  refine t_norm (hK153 _ _ ?_)
                  refine wp_ret ?_
                  refine c_retC2 Tryd.results16 rfl (run_loadVarN (cs := [(.int .i64 no), (.int .i64 g), (.slice p154 (insAt l ni149 ((key, v.2) : Cel)).length c155)]) Tryd.underlying24 rfl ti24 hH157 (seg_sub 0 rfl) (CellsAt.one rfl)) (x := (.int .i64 0)) rfl ?_
                  have hv1_ : v.1 = true := (by first | (simpa using h86))
                  have hE_ : setE no gsn l key v g = 0 := by rw [hok_]; simp [h116, h134, hv1_]; try omega
                  have q158 : (setNo no gsn l key v g) = no := by unfold setNo; rw [if_pos hE_]
                  have q159 : (setG no gsn l key v g) = g := by unfold setG; rw [if_pos hE_]
                  have q160 : (setL no gsn l key v g) = (insAt l ni149 ((key, v.2) : Cel)) := by unfold setL; rw [if_pos hE_]; unfold setC; simp [h116, hv1_, hni149_]
                  have q161 : (setE no gsn l key v g) = 0 := by exact hE_
                  have hH162 : Has E w156 [s147, R] := ((hH157.front 6 rfl).front 2 rfl).first 2 rfl
                  exact ⟨_, _, by rw [q158, q159]; rw [q161], (by rw [q160]; exact ho148), hH162⟩
end Go.Q
namespace Go.Q
theorem sortedC_eq {α : Type} {R : α → α → Prop} (irr : ∀ x, ¬ R x x) (tr : ∀ x y z, R x y → R y z → R x z) : ∀ {l1 l2 : List α}, l1.Pairwise R → l2.Pairwise R → (∀ x, x ∈ l1 ↔ x ∈ l2) → l1 = l2
  | [], [], _, _, _ => rfl
  | [], y :: t, _, _, h => by have := (h y).2 (List.mem_cons_self ..); cases this
  | x :: t, [], _, _, h => by have := (h x).1 (List.mem_cons_self ..); cases this
  | x :: t, y :: u, h1, h2, h => by
    have a1 := List.pairwise_cons.1 h1
    have a2 := List.pairwise_cons.1 h2
    have exy : x = y := by
      rcases List.mem_cons.1 ((h x).1 (List.mem_cons_self ..)) with e | e
      · exact e
      · rcases List.mem_cons.1 ((h y).2 (List.mem_cons_self ..)) with g | g
        · exact g.symm
        · exact absurd (tr _ _ _ (a1.1 y g) (a2.1 x e)) (irr x)
    subst exy
    congr 1
    refine sortedC_eq irr tr a1.2 a2.2 fun z => ⟨fun hz => ?_, fun hz => ?_⟩
    · rcases List.mem_cons.1 ((h z).1 (List.mem_cons_of_mem _ hz)) with e | e
      · exact absurd (a1.1 z hz) (by rw [e]; exact irr x)
      · exact e
    · rcases List.mem_cons.1 ((h z).2 (List.mem_cons_of_mem _ hz)) with e | e
      · exact absurd (a2.1 z hz) (by rw [e]; exact irr x)
      · exact e
theorem mem_putL {key s : Bs} {x : Cel} : ∀ {d : Bool} {l : List Cel}, x ∈ putL key s d l ↔ (x ∈ l ∧ x.1 ≠ key) ∨ (d = false ∧ x = (key, s))
  | d, [] => by cases d <;> simp [putL]
  | d, c :: t => by
    rw [putL, List.mem_append, List.mem_append, mem_putL (l := t), List.mem_cons]
    by_cases hk : c.1 = key
    · have hc : ¬ c.1 < key := by rw [hk]; exact bs_irr _
      have hck : ¬ key < key := bs_irr _
      rw [decide_eq_false hc]
      cases d
      · simp only [hk, hc, ne_eq, not_true_eq_false, if_false, not_false_eq_true, and_self, if_true, List.mem_singleton, Bool.not_false, Bool.or_true, Bool.true_eq_false, false_and, or_false, true_and, List.not_mem_nil, false_or]
        rw [if_pos hck, List.mem_singleton]
        constructor
        · rintro (h | h)
          · exact .inr h
          · exact .inl ⟨.inr h.1, h.2⟩
        · rintro (⟨h | h, g⟩ | h)
          · rw [h] at g; exact absurd hk g
          · exact .inr ⟨h, g⟩
          · exact .inl h
      · simp only [hk, ne_eq, not_true_eq_false, Bool.true_eq_false, false_and, if_false, List.not_mem_nil, Bool.true_or, or_false, false_or]
        constructor
        · intro h; exact ⟨.inr h.1, h.2⟩
        · rintro ⟨h | h, g⟩
          · rw [h] at g; exact absurd hk g
          · exact ⟨h, g⟩
    · by_cases hc : c.1 < key
      · rw [decide_eq_true hc]
        cases d <;> simp [hk, hc]
        · constructor
          · rintro (h | h | h)
            · subst h; exact .inl ⟨.inl rfl, hk⟩
            · exact .inl ⟨.inr h.1, h.2⟩
            · exact .inr h
          · rintro (⟨h | h, g⟩ | h)
            · exact .inl h
            · exact .inr (.inl ⟨h, g⟩)
            · exact .inr (.inr h)
        · constructor
          · rintro (h | h)
            · subst h; exact ⟨.inl rfl, hk⟩
            · exact ⟨.inr h.1, h.2⟩
          · rintro ⟨h | h, g⟩
            · exact .inl h
            · exact .inr ⟨h, g⟩
      · rw [decide_eq_false hc]
        cases d
        · simp only [hk, hc, ne_eq, not_false_eq_true, and_self, if_true, List.mem_singleton, Bool.not_false, Bool.or_true, Bool.true_eq_false, false_and, or_false, true_and]
          constructor
          · rintro (h | h | h)
            · exact .inr h
            · subst h; exact .inl ⟨.inl rfl, hk⟩
            · exact .inl ⟨.inr h.1, h.2⟩
          · rintro (⟨h | h, g⟩ | h)
            · exact .inr (.inl h)
            · exact .inr (.inr ⟨h, g⟩)
            · exact .inl h
        · simp only [hk, ne_eq, not_false_eq_true, Bool.true_eq_false, false_and, if_false, List.not_mem_nil, if_true, List.mem_singleton, Bool.true_or, or_false, false_or]
          constructor
          · rintro (h | h)
            · subst h; exact ⟨.inl rfl, hk⟩
            · exact ⟨.inr h.1, h.2⟩
          · rintro ⟨h | h, g⟩
            · exact .inl h
            · exact .inr ⟨h, g⟩
theorem rises_putL {key s : Bs} : ∀ {d : Bool} {l : List Cel}, Rises l → Rises (putL key s d l)
  | d, [], _ => by cases d <;> simp [putL, Rises]
  | d, c :: t, h => by
    obtain ⟨h1, h2⟩ := rises_cons h
    have ih : ∀ d, Rises (putL key s d t) := fun d => rises_putL h2
    have hck : ∀ d x, x ∈ putL key s d t → (d = true ∨ c.1 < key) → c.1 < x.1 := fun d x hx hd => by
      rcases mem_putL.1 hx with ⟨g, _⟩ | ⟨g, e⟩
      · exact h1 x g
      · rcases hd with hd | hd
        · rw [g] at hd; cases hd
        · rw [e]; exact hd
    rw [putL]
    by_cases hc : c.1 < key
    · have hk : c.1 ≠ key := fun e => by rw [e] at hc; exact bs_irr _ hc
      rw [if_neg (by simp [hc]), if_pos hk, List.nil_append]
      exact List.pairwise_cons.2 ⟨fun x hx => hck _ x hx (.inr hc), ih _⟩
    · rw [decide_eq_false hc, Bool.not_false, Bool.or_true]
      by_cases hk : c.1 = key
      · rw [if_neg (show ¬ c.1 ≠ key by simp [hk]), List.nil_append]
        cases d with
        | true => rw [if_neg (by simp), List.nil_append]; exact ih true
        | false =>
          rw [if_pos ⟨rfl, hc⟩]
          exact List.pairwise_cons.2 ⟨fun x hx => by have := hck true x hx (.inl rfl); rw [hk] at this; exact this, ih true⟩
      · have hgt : key < c.1 := by
          rcases List.le_iff_lt_or_eq.1 (List.not_lt.1 hc) with e | e
          · exact e
          · exact absurd e.symm hk
        rw [if_pos hk]
        have h3 : Rises ([c] ++ putL key s true t) := List.pairwise_cons.2 ⟨fun x hx => hck true x hx (.inl rfl), ih true⟩
        cases d with
        | true => rw [if_neg (by simp), List.nil_append]; exact h3
        | false =>
          rw [if_pos ⟨rfl, hc⟩]
          refine List.pairwise_cons.2 ⟨fun x hx => ?_, h3⟩
          · replace hx : x ∈ [c] ++ putL key s true t := hx
            rcases List.mem_append.1 hx with e | e
            · rw [List.mem_singleton.1 e]; exact hgt
            · exact bs_tr hgt (hck true x e (.inl rfl))
theorem mem_setC {l : List Cel} {key : Bs} {v : Bool × Bs} {x : Cel} (h : Rises l) (hh : v.1 = true ∨ hasC l key = true) : x ∈ setC l key v ↔ (x ∈ l ∧ x.1 ≠ key) ∨ (v.1 = true ∧ x = (key, v.2)) := by
  rw [← put_eq h hh, mem_putL]
  cases v.1 <;> simp
theorem rises_setC {l : List Cel} {key : Bs} {v : Bool × Bs} (h : Rises l) (hh : v.1 = true ∨ hasC l key = true) : Rises (setC l key v) := by
  rw [← put_eq h hh]; exact rises_putL h
theorem setC_len (l : List Cel) (key : Bs) (v : Bool × Bs) : (setC l key v).length ≤ l.length + (if v.1 = true ∧ hasC l key = false then 1 else 0) := by
  unfold setC insAt
  split
  · rename_i h; split
    · rename_i g; simp
    · rename_i g
      rw [if_pos ⟨h, by simpa using g⟩]
      simp only [List.length_append, List.length_take, List.length_drop, List.length_cons, List.length_nil]; omega
  · simp only [List.length_append, List.length_take, List.length_drop]; omega
theorem set_right {no gsn g : Int} {l : List Cel} {key : Bs} {v : Bool × Bs} (h : setE no gsn l key v g = 0) : pageR no g (setC l key v) = true ∧ Rises l ∧ (v.1 = true ∨ hasC l key = true) ∧ pageR no gsn l = true ∧ keyR key = true ∧ valR v = true ∧ gsn < g ∧ g ≤ 4611686018427387903 := by
  obtain ⟨h1, h2, h3, h4, h5⟩ := setE_one (by rw [h]; decide)
  have hok := setE_ok (g := g) h1 h2 h3 (by omega) (by omega)
  rw [h] at hok
  have hp := pageR_iff.1 h1
  have hc := cellsR_iff.1 hp.2
  have hv : v.1 = true ∨ hasC l key = true := by
    cases e1 : v.1 with
    | true => exact .inl rfl
    | false =>
      cases e2 : hasC l key with
      | true => exact .inr rfl
      | false => rw [if_pos ⟨e1, e2⟩] at hok; cases hok
  have hlen : (setC l key v).length ≤ 8 := by
    have := setC_len l key v
    split at this
    · rename_i g
      rw [if_neg (by rw [g.1]; simp)] at hok
      split at hok
      · cases hok
      · rename_i g2
        have : ¬ 8 ≤ l.length := fun e => g2 ⟨g.1, g.2, e⟩
        omega
    · omega
  refine ⟨pageR_iff.2 ⟨by omega, cellsR_iff.2 ⟨fun c hm => ?_, rises_setC hc.2.1 hv, hlen⟩⟩, hc.2.1, hv, h1, h2, h3, h4, h5⟩
  rcases (mem_setC hc.2.1 hv).1 hm with ⟨g1, _⟩ | ⟨g1, g2⟩
  · exact hc.1 c g1
  · rw [g2]; unfold celOk
    rw [h2, show ((true, v.2) : Bool × Bs) = v by rw [← g1]]; exact h3
theorem getC_mem {l : List Cel} {key : Bs} : (getC l key).1 = true → (key, (getC l key).2) ∈ l := by
  induction l with
  | nil => intro h; cases h
  | cons c t ih =>
    rw [getC]
    split
    · rename_i h; intro _; simp only; rw [← h]; exact List.mem_cons_self ..
    · intro h; exact List.mem_cons_of_mem _ (ih h)
theorem getC_of {l : List Cel} {key s : Bs} (h : Rises l) (hm : (key, s) ∈ l) : getC l key = (true, s) := by
  induction l with
  | nil => cases hm
  | cons c t ih =>
    obtain ⟨h1, h2⟩ := rises_cons h
    rw [getC]
    rcases List.mem_cons.1 hm with e | e
    · rw [← e, if_pos rfl]
    · rw [if_neg (fun g => by have := h1 _ e; rw [g] at this; exact bs_irr _ this)]
      exact ih h2 e
theorem getC_none {l : List Cel} {key : Bs} (h : ∀ x ∈ l, x.1 ≠ key) : getC l key = (false, []) := by
  induction l with
  | nil => rfl
  | cons c t ih => rw [getC, if_neg (h c (List.mem_cons_self ..)), ih fun x hx => h x (List.mem_cons_of_mem c hx)]
theorem valR_norm {v : Bool × Bs} (h : valR v = true) (h1 : v.1 = false) : v = (false, []) := by
  unfold valR at h
  rw [h1] at h
  simp only [Bool.false_or, Bool.and_eq_true, decide_eq_true_eq] at h
  exact Prod.ext h1 h.2
theorem getC_set {no gsn g : Int} {l : List Cel} {key : Bs} {v : Bool × Bs} (h : setE no gsn l key v g = 0) : getC (setC l key v) key = v := by
  obtain ⟨_, h2, h3, _, _, h6, _⟩ := set_right h
  have hr := rises_setC h2 h3
  cases e : v.1 with
  | true =>
    rw [getC_of hr ((mem_setC h2 h3).2 (.inr ⟨e, rfl⟩)), ← e]
  | false =>
    rw [valR_norm h6 e, getC_none]
    intro x hx
    rw [← valR_norm h6 e] at hx
    rcases (mem_setC h2 h3).1 hx with g | g
    · exact g.2
    · rw [e] at g; cases g.1
theorem rises_eq {a b : List Cel} (ha : Rises a) (hb : Rises b) (h : ∀ x, x ∈ a ↔ x ∈ b) : a = b :=
  sortedC_eq (R := fun x y : Cel => x.1 < y.1) (fun x => bs_irr _) (fun x y z h1 h2 => bs_tr h1 h2) ha hb h
theorem hasC_iff {l : List Cel} {key : Bs} : hasC l key = true ↔ ∃ c ∈ l, c.1 = key := by
  unfold hasC; rw [List.any_eq_true]; simp only [decide_eq_true_iff]
/-- a key that is set, and set as it was -/
theorem set_back {no gsn : Int} {l : List Cel} {key : Bs} {v : Bool × Bs} (h : setE no gsn l key v (gsn + 1) = 0) (hg : gsn ≤ 2305843009213693952) :
    setE no (gsn + 1) (setC l key v) key (getC l key) (gsn + 2) = 0 ∧ setC (setC l key v) key (getC l key) = l ∧ (v.1 = true ∨ (getC l key).1 = true) := by
  obtain ⟨h1, h2, h3, h4, h5, h6, h7, h8⟩ := set_right h
  have hr := rises_setC h2 h3
  have hc := cellsR_iff.1 (pageR_iff.1 h4).2
  have hgh := getC_has l key
  have hw : valR (getC l key) = true := by
    cases e : (getC l key).1 with
    | true =>
      have hm := getC_mem e
      have := hc.1 _ hm
      unfold celOk at this
      rw [Bool.and_eq_true] at this
      rw [show getC l key = (true, (getC l key).2) by rw [← e]]; exact this.2
    | false =>
      have : getC l key = (false, []) := by
        refine getC_none fun x hx e2 => ?_
        rw [hgh] at e
        rw [hasC_iff.2 ⟨x, hx, e2⟩] at e; cases e
      rw [this]; decide
  have hw2 : (getC l key).1 = true ∨ hasC (setC l key v) key = true := by
    rcases h3 with e | e
    · exact .inr (hasC_iff.2 ⟨(key, v.2), (mem_setC h2 (.inl e)).2 (.inr ⟨e, rfl⟩), rfl⟩)
    · exact .inl (by rw [hgh]; exact e)
  have hback : setC (setC l key v) key (getC l key) = l := by
    refine rises_eq (rises_setC hr hw2) h2 fun x => ?_
    rw [mem_setC hr hw2, mem_setC h2 h3]
    constructor
    · rintro (⟨(⟨g1, _⟩ | ⟨g1, g2⟩), g3⟩ | ⟨g1, g2⟩)
      · exact g1
      · exact absurd (by rw [g2]) g3
      · rw [g2]; exact getC_mem g1
    · intro hx
      by_cases e : x.1 = key
      · have hx2 : (key, x.2) ∈ l := by rw [← e]; exact hx
        have := getC_of h2 hx2
        exact .inr ⟨by rw [this], by rw [this, ← e]⟩
      · exact .inl ⟨.inl ⟨hx, e⟩, e⟩
  refine ⟨?_, hback, by rw [hgh]; exact h3⟩
  rw [setE_ok h1 h5 hw (by omega) (by omega)]
  have hl8 := (cellsR_iff.1 (pageR_iff.1 h1).2).2.2
  rw [if_neg, if_neg]
  · rintro ⟨g1, g2, g3⟩
    have hv : v.1 = false := by
      cases e : v.1 with
      | false => rfl
      | true => rw [hasC_iff.2 ⟨(key, v.2), (mem_setC h2 h3).2 (.inr ⟨e, rfl⟩), rfl⟩] at g2; cases g2
    have hh : hasC l key = true := by rw [← hgh]; exact g1
    have hpl := hasC_at h2 hh
    have : (setC l key v).length = l.length - 1 := by
      unfold setC; rw [if_neg (by rw [hv]; simp)]
      simp only [List.length_append, List.length_take, List.length_drop]
      have := posC_le l key
      omega
    have := hc.2.2
    omega
  · rintro ⟨g1, g2⟩
    rcases hw2 with e | e
    · rw [g1] at e; cases e
    · rw [g2] at e; cases e
theorem setL_le (no gsn : Int) (l : List Cel) (key : Bs) (v : Bool × Bs) (g : Int) : (setL no gsn l key v g).length ≤ l.length + 1 := by
  unfold setL
  split
  · have := setC_len l key v
    split at this <;> omega
  · simp
end Go.Q
namespace Go.Q
theorem aw11_e : setE 3 0 ([] : List Cel) [97] (true, [120]) 5 = 0 := by decide +kernel
theorem aw11_no : setNo 3 0 ([] : List Cel) [97] (true, [120]) 5 = 3 := by decide +kernel
theorem aw11_g : setG 3 0 ([] : List Cel) [97] (true, [120]) 5 = 5 := by decide +kernel
theorem aw11_l : setL 3 0 ([] : List Cel) [97] (true, [120]) 5 = [([97], [120])] := by decide +kernel
theorem aw11_r : pageR 3 5 [([97], [120])] = true := by decide +kernel
theorem aw11_v : getC [([97], [120])] ([97] : Bs) = (true, [120]) := by decide +kernel
theorem setNo_ok {no gsn g : Int} {l : List Cel} {key : Bs} {v : Bool × Bs} (h : setE no gsn l key v g = 0) : setNo no gsn l key v g = no := if_pos h
theorem setNo_no {no gsn g : Int} {l : List Cel} {key : Bs} {v : Bool × Bs} (h : setE no gsn l key v g ≠ 0) : setNo no gsn l key v g = 0 := if_neg h
theorem setG_ok {no gsn g : Int} {l : List Cel} {key : Bs} {v : Bool × Bs} (h : setE no gsn l key v g = 0) : setG no gsn l key v g = g := if_pos h
theorem setG_no {no gsn g : Int} {l : List Cel} {key : Bs} {v : Bool × Bs} (h : setE no gsn l key v g ≠ 0) : setG no gsn l key v g = 0 := if_neg h
theorem setL_ok {no gsn g : Int} {l : List Cel} {key : Bs} {v : Bool × Bs} (h : setE no gsn l key v g = 0) : setL no gsn l key v g = setC l key v := if_pos h
theorem setL_no {no gsn g : Int} {l : List Cel} {key : Bs} {v : Bool × Bs} (h : setE no gsn l key v g ≠ 0) : setL no gsn l key v g = [] := if_neg h
end Go.Q
namespace Go.Q
open Go.Proofs
set_option linter.unusedVariables false
set_option maxRecDepth 100000
attribute [local irreducible] wpList OK Code.wp
set_option maxHeartbeats 4000000 in
theorem awake11_c {E w : World} {R : List Hp}   (hH : Has E w [R]) (hg : CellsAt R 0 0 nibV) :
    Calls Tryd.prog 9 #[] w fun e w' => e = .returned (.bool true) ∧ Has E w' [R] := by
  refine c_enter (args := []) Tryd.func9 rfl Tryd.ntmps9 (by simp) ?_
  refine wp_seq_k fun K1 hK1 => ?_
  refine c_region ?_
  refine s_op (o_assign (v := (.bool false)) rfl ?_)
  refine s_nil ?_
  refine t_norm (hK1 _ _ ?_)
  refine wp_seq_k fun K2 hK2 => ?_
  refine c_region ?_
  refine s_op (o_sight (v := (.agg #[(.int .i64 3), (.int .i64 0), (.slice none 0 0)])) (fun _ => by kernel_rfl) ?_)
  refine s_op (o_sight (v := (.agg #[(.bool true), (S [120])])) (fun _ => by kernel_rfl) ?_)
  refine s_op (o_callf (vs := #[(.agg #[(.int .i64 3), (.int .i64 0), (.slice none 0 0)]), (S [97]), (.agg #[(.bool true), (S [120])]), (.int .i64 5)]) ca16 rfl (args4 rfl rfl rfl rfl) (pset_c (no := 3) (gsn := 0) (l := ([] : List Cel)) (key := [97]) (v := (true, [120])) (g := 5) hH.all (sl_nil 2) (by first | omega | (simp only []; omega) | (simp; done) | (simp; omega))) ?_)
  rintro _ w8 ⟨v3, s4, rfl, ho5, hX6⟩
  refine ⟨_, rfl, ?_⟩
  have hH7 : Has E w8 [s4, R] := hX6.of_all1
  refine s_op (o_move (v := (.tuple #[(.agg #[(.int .i64 (setNo 3 0 ([] : List Cel) [97] (true, [120]) 5)), (.int .i64 (setG 3 0 ([] : List Cel) [97] (true, [120]) 5)), v3]), (.int .i64 (setE 3 0 ([] : List Cel) [97] (true, [120]) 5))])) rfl ?_)
  refine s_op (o_extract (v := (.agg #[(.int .i64 (setNo 3 0 ([] : List Cel) [97] (true, [120]) 5)), (.int .i64 (setG 3 0 ([] : List Cel) [97] (true, [120]) 5)), v3])) rfl rfl ?_)
  refine s_op (o_extract (v := (.int .i64 (setE 3 0 ([] : List Cel) [97] (true, [120]) 5))) rfl rfl ?_)
  refine s_op (o_alloc (cs := #[(.int .i64 0), (.int .i64 0), (.slice none 0 0)]) ti24 rfl hH7 fun b9 w10 hH11 => ?_)
  refine s_eff (o_storeN (vs := [(.int .i64 (setNo 3 0 ([] : List Cel) [97] (true, [120]) 5)), (.int .i64 (setG 3 0 ([] : List Cel) [97] (true, [120]) 5)), v3]) (c' := #[(.int .i64 (setNo 3 0 ([] : List Cel) [97] (true, [120]) 5)), (.int .i64 (setG 3 0 ([] : List Cel) [97] (true, [120]) 5)), v3]) ti24 rfl rfl rfl rfl (by intro u hu; simp only [List.mem_cons, List.not_mem_nil, or_false] at hu; rcases hu with rfl | rfl | rfl <;> first | rfl | exact ho5.one) (by simp) (by kernel_rfl) (hH11.front 0 rfl) fun w12 hH13 => ?_)
  refine s_op (o_assign (v := (.int .i64 (setE 3 0 ([] : List Cel) [97] (true, [120]) 5))) rfl ?_)
  refine s_nil ?_
  refine t_norm (hK2 _ _ ?_)
  refine wp_seq_k fun K14 hK14 => ?_
  refine c_region ?_
  refine s_op (o_loadN (cs := [(.int .i64 (setNo 3 0 ([] : List Cel) [97] (true, [120]) 5)), (.int .i64 (setG 3 0 ([] : List Cel) [97] (true, [120]) 5)), v3]) Tryd.underlying24 rfl ti24 rfl hH13 (seg_sub 0 rfl) (CellsAt.one rfl) ?_)
  refine s_op (o_callf (vs := #[(.agg #[(.int .i64 (setNo 3 0 ([] : List Cel) [97] (true, [120]) 5)), (.int .i64 (setG 3 0 ([] : List Cel) [97] (true, [120]) 5)), v3])]) ca21 rfl (args1 rfl) (plaid_c (no := (setNo 3 0 ([] : List Cel) [97] (true, [120]) 5)) (gsn := (setG 3 0 ([] : List Cel) [97] (true, [120]) 5)) (l := (setL 3 0 ([] : List Cel) [97] (true, [120]) 5)) hH13.all (ho5.sl.mono (seg_sub 1 rfl)) (hg.mono (seg_sub 2 rfl))) ?_)
  rintro _ w17 ⟨rfl, hX15⟩
  refine ⟨_, rfl, ?_⟩
  have hH16 := hX15.of_all
  have hll_ := laidP_le (setNo 3 0 ([] : List Cel) [97] (true, [120]) 5) (setG 3 0 ([] : List Cel) [97] (true, [120]) 5) (setL 3 0 ([] : List Cel) [97] (true, [120]) 5)
  refine s_op (o_callf (vs := #[(S (laidP (setNo 3 0 ([] : List Cel) [97] (true, [120]) 5) (setG 3 0 ([] : List Cel) [97] (true, [120]) 5) (setL 3 0 ([] : List Cel) [97] (true, [120]) 5)))]) ca19 rfl (args1 rfl) (pread_c (s := (laidP (setNo 3 0 ([] : List Cel) [97] (true, [120]) 5) (setG 3 0 ([] : List Cel) [97] (true, [120]) 5) (setL 3 0 ([] : List Cel) [97] (true, [120]) 5))) hH16.all (hg.mono (seg_sub 2 rfl))) ?_)
  rintro _ w23 ⟨v18, s19, rfl, ho20, hX21⟩
  refine ⟨_, rfl, ?_⟩
  have hH22 : Has E w23 [s19, [Hp.one b9 (.cells #[(.int .i64 (setNo 3 0 ([] : List Cel) [97] (true, [120]) 5)), (.int .i64 (setG 3 0 ([] : List Cel) [97] (true, [120]) 5)), v3] 24 (0, 0))], s4, R] := hX21.of_all1
  refine s_op (o_move (v := (.tuple #[(.agg #[(.int .i64 ((readP (laidP (setNo 3 0 ([] : List Cel) [97] (true, [120]) 5) (setG 3 0 ([] : List Cel) [97] (true, [120]) 5) (setL 3 0 ([] : List Cel) [97] (true, [120]) 5))).2.1)), (.int .i64 ((readP (laidP (setNo 3 0 ([] : List Cel) [97] (true, [120]) 5) (setG 3 0 ([] : List Cel) [97] (true, [120]) 5) (setL 3 0 ([] : List Cel) [97] (true, [120]) 5))).2.2.1)), v18]), (.bool ((readP (laidP (setNo 3 0 ([] : List Cel) [97] (true, [120]) 5) (setG 3 0 ([] : List Cel) [97] (true, [120]) 5) (setL 3 0 ([] : List Cel) [97] (true, [120]) 5))).1))])) rfl ?_)
  refine s_op (o_extract (v := (.agg #[(.int .i64 ((readP (laidP (setNo 3 0 ([] : List Cel) [97] (true, [120]) 5) (setG 3 0 ([] : List Cel) [97] (true, [120]) 5) (setL 3 0 ([] : List Cel) [97] (true, [120]) 5))).2.1)), (.int .i64 ((readP (laidP (setNo 3 0 ([] : List Cel) [97] (true, [120]) 5) (setG 3 0 ([] : List Cel) [97] (true, [120]) 5) (setL 3 0 ([] : List Cel) [97] (true, [120]) 5))).2.2.1)), v18])) rfl rfl ?_)
  refine s_op (o_extract (v := (.bool ((readP (laidP (setNo 3 0 ([] : List Cel) [97] (true, [120]) 5) (setG 3 0 ([] : List Cel) [97] (true, [120]) 5) (setL 3 0 ([] : List Cel) [97] (true, [120]) 5))).1))) rfl rfl ?_)
  refine s_op (o_alloc (cs := #[(.int .i64 0), (.int .i64 0), (.slice none 0 0)]) ti24 rfl hH22 fun b24 w25 hH26 => ?_)
  refine s_eff (o_storeN (vs := [(.int .i64 ((readP (laidP (setNo 3 0 ([] : List Cel) [97] (true, [120]) 5) (setG 3 0 ([] : List Cel) [97] (true, [120]) 5) (setL 3 0 ([] : List Cel) [97] (true, [120]) 5))).2.1)), (.int .i64 ((readP (laidP (setNo 3 0 ([] : List Cel) [97] (true, [120]) 5) (setG 3 0 ([] : List Cel) [97] (true, [120]) 5) (setL 3 0 ([] : List Cel) [97] (true, [120]) 5))).2.2.1)), v18]) (c' := #[(.int .i64 ((readP (laidP (setNo 3 0 ([] : List Cel) [97] (true, [120]) 5) (setG 3 0 ([] : List Cel) [97] (true, [120]) 5) (setL 3 0 ([] : List Cel) [97] (true, [120]) 5))).2.1)), (.int .i64 ((readP (laidP (setNo 3 0 ([] : List Cel) [97] (true, [120]) 5) (setG 3 0 ([] : List Cel) [97] (true, [120]) 5) (setL 3 0 ([] : List Cel) [97] (true, [120]) 5))).2.2.1)), v18]) ti24 rfl rfl rfl rfl (by intro u hu; simp only [List.mem_cons, List.not_mem_nil, or_false] at hu; rcases hu with rfl | rfl | rfl <;> first | rfl | exact ho20.one) (by simp) (by kernel_rfl) (hH26.front 0 rfl) fun w27 hH28 => ?_)
  refine s_op (o_assign (v := (.bool ((readP (laidP (setNo 3 0 ([] : List Cel) [97] (true, [120]) 5) (setG 3 0 ([] : List Cel) [97] (true, [120]) 5) (setL 3 0 ([] : List Cel) [97] (true, [120]) 5))).1))) rfl ?_)
  refine s_nil ?_
  refine t_norm (hK14 _ _ ?_)
  refine wp_seq_k fun K29 hK29 => ?_
  refine c_region ?_
  refine s_op (o_move (v := (.int .i64 (setE 3 0 ([] : List Cel) [97] (true, [120]) 5))) rfl ?_)
  refine s_op (o_eql (a := (setE 3 0 ([] : List Cel) [97] (true, [120]) 5)) (b := 0) rfl rfl ?_)
  refine s_op (o_move (v := (.bool (decide ((setE 3 0 ([] : List Cel) [97] (true, [120]) 5) = 0)))) rfl ?_)
  by_cases h30 : (setE 3 0 ([] : List Cel) [97] (true, [120]) 5) = 0
  · -- (setE 3 0 ([] : List Cel) [97] (true, [120]) 5) = 0
    refine s_on 19 rfl (congrArg Value.bool (decide_eq_true h30)) (o_fieldAddr (k := 1) (fun _ => by kernel_rfl) rfl ?_)
    refine s_on 19 rfl (congrArg Value.bool (decide_eq_true h30)) (o_load1 (v := (.int .i64 (setG 3 0 ([] : List Cel) [97] (true, [120]) 5))) Tryd.underlying3 rfl rfl hH28 (seg_sub 2 rfl) (CellsAt.one rfl) ?_)
    refine s_on 19 rfl (congrArg Value.bool (decide_eq_true h30)) (o_eql (a := (setG 3 0 ([] : List Cel) [97] (true, [120]) 5)) (b := 5) rfl rfl ?_)
    refine s_op (o_pick_t (u := (.bool (decide ((setG 3 0 ([] : List Cel) [97] (true, [120]) 5) = 5)))) ((rfl : _ = _).trans (congrArg Value.bool (decide_eq_true h30))) rfl ?_)
    refine s_op (o_move (v := (.bool (decide ((setG 3 0 ([] : List Cel) [97] (true, [120]) 5) = 5)))) rfl ?_)
    by_cases h31 : (setG 3 0 ([] : List Cel) [97] (true, [120]) 5) = 5
    · -- (setG 3 0 ([] : List Cel) [97] (true, [120]) 5) = 5
      refine s_on 24 rfl (congrArg Value.bool (decide_eq_true h31)) (o_fieldAddr (k := 2) (fun _ => by kernel_rfl) rfl ?_)
      refine s_on 24 rfl (congrArg Value.bool (decide_eq_true h31)) (o_load1 (v := v3) Tryd.underlying22 rfl rfl hH28 (seg_sub 2 rfl) (CellsAt.one rfl) ?_)
      refine s_on 24 rfl (congrArg Value.bool (decide_eq_true h31)) (o_lenS Tryd.underlying22 rfl ho5.sl ?_)
      refine s_on 24 rfl (congrArg Value.bool (decide_eq_true h31)) (o_eql (a := (((setL 3 0 ([] : List Cel) [97] (true, [120]) 5).length : Nat) : Int)) (b := 1) rfl rfl ?_)
      refine s_op (o_pick_t (u := (.bool (decide ((((setL 3 0 ([] : List Cel) [97] (true, [120]) 5).length : Nat) : Int) = 1)))) ((rfl : _ = _).trans (congrArg Value.bool (decide_eq_true h31))) rfl ?_)
      refine s_op (o_move (v := (.bool (decide ((((setL 3 0 ([] : List Cel) [97] (true, [120]) 5).length : Nat) : Int) = 1)))) rfl ?_)
      by_cases h32 : (((setL 3 0 ([] : List Cel) [97] (true, [120]) 5).length : Nat) : Int) = 1
      · -- (((setL 3 0 ([] : List Cel) [97] (true, [120]) 5).length : Nat) : Int) = 1
        refine s_on 30 rfl (congrArg Value.bool (decide_eq_true h32)) (o_move (v := (.bool ((readP (laidP (setNo 3 0 ([] : List Cel) [97] (true, [120]) 5) (setG 3 0 ([] : List Cel) [97] (true, [120]) 5) (setL 3 0 ([] : List Cel) [97] (true, [120]) 5))).1))) rfl ?_)
        refine s_op (o_pick_t (u := (.bool ((readP (laidP (setNo 3 0 ([] : List Cel) [97] (true, [120]) 5) (setG 3 0 ([] : List Cel) [97] (true, [120]) 5) (setL 3 0 ([] : List Cel) [97] (true, [120]) 5))).1))) ((rfl : _ = _).trans (congrArg Value.bool (decide_eq_true h32))) rfl ?_)
        refine s_op (o_move (v := (.bool ((readP (laidP (setNo 3 0 ([] : List Cel) [97] (true, [120]) 5) (setG 3 0 ([] : List Cel) [97] (true, [120]) 5) (setL 3 0 ([] : List Cel) [97] (true, [120]) 5))).1))) rfl ?_)
        rcases Bool.eq_false_or_eq_true ((readP (laidP (setNo 3 0 ([] : List Cel) [97] (true, [120]) 5) (setG 3 0 ([] : List Cel) [97] (true, [120]) 5) (setL 3 0 ([] : List Cel) [97] (true, [120]) 5))).1) with h33 | h33
        · -- (readP (laidP (setNo 3 0 ([] : List Cel) [97] (true, [120]) 5) (setG 3 0 ([] : List Cel) [97] (true, [120]) 5) (setL 3 0 ([] : List Cel) [97] (true, [120]) 5))).1
          refine s_on 33 rfl (congrArg Value.bool h33) (o_loadN (cs := [(.int .i64 (setNo 3 0 ([] : List Cel) [97] (true, [120]) 5)), (.int .i64 (setG 3 0 ([] : List Cel) [97] (true, [120]) 5)), v3]) Tryd.underlying24 rfl ti24 rfl hH28 (seg_sub 2 rfl) (CellsAt.one rfl) ?_)
          refine s_on 33 rfl (congrArg Value.bool h33) (o_loadN (cs := [(.int .i64 ((readP (laidP (setNo 3 0 ([] : List Cel) [97] (true, [120]) 5) (setG 3 0 ([] : List Cel) [97] (true, [120]) 5) (setL 3 0 ([] : List Cel) [97] (true, [120]) 5))).2.1)), (.int .i64 ((readP (laidP (setNo 3 0 ([] : List Cel) [97] (true, [120]) 5) (setG 3 0 ([] : List Cel) [97] (true, [120]) 5) (setL 3 0 ([] : List Cel) [97] (true, [120]) 5))).2.2.1)), v18]) Tryd.underlying24 rfl ti24 rfl hH28 (seg_sub 0 rfl) (CellsAt.one rfl) ?_)
          refine s_on 33 rfl (congrArg Value.bool h33) (o_callf (vs := #[(.agg #[(.int .i64 (setNo 3 0 ([] : List Cel) [97] (true, [120]) 5)), (.int .i64 (setG 3 0 ([] : List Cel) [97] (true, [120]) 5)), v3]), (.agg #[(.int .i64 ((readP (laidP (setNo 3 0 ([] : List Cel) [97] (true, [120]) 5) (setG 3 0 ([] : List Cel) [97] (true, [120]) 5) (setL 3 0 ([] : List Cel) [97] (true, [120]) 5))).2.1)), (.int .i64 ((readP (laidP (setNo 3 0 ([] : List Cel) [97] (true, [120]) 5) (setG 3 0 ([] : List Cel) [97] (true, [120]) 5) (setL 3 0 ([] : List Cel) [97] (true, [120]) 5))).2.2.1)), v18])]) ca12 rfl (args2 rfl rfl) (psame_c (noa := (setNo 3 0 ([] : List Cel) [97] (true, [120]) 5)) (gsna := (setG 3 0 ([] : List Cel) [97] (true, [120]) 5)) (la := (setL 3 0 ([] : List Cel) [97] (true, [120]) 5)) (nob := (readP (laidP (setNo 3 0 ([] : List Cel) [97] (true, [120]) 5) (setG 3 0 ([] : List Cel) [97] (true, [120]) 5) (setL 3 0 ([] : List Cel) [97] (true, [120]) 5))).2.1) (gsnb := (readP (laidP (setNo 3 0 ([] : List Cel) [97] (true, [120]) 5) (setG 3 0 ([] : List Cel) [97] (true, [120]) 5) (setL 3 0 ([] : List Cel) [97] (true, [120]) 5))).2.2.1) (lb := ((readP (laidP (setNo 3 0 ([] : List Cel) [97] (true, [120]) 5) (setG 3 0 ([] : List Cel) [97] (true, [120]) 5) (setL 3 0 ([] : List Cel) [97] (true, [120]) 5))).2.2.2)) hH28.all (ho5.sl.mono (seg_sub 3 rfl)) (ho20.sl.mono (seg_sub 1 rfl))) ?_)
          rintro _ w36 ⟨rfl, hX34⟩
          refine ⟨_, rfl, ?_⟩
          have hH35 := hX34.of_all
          refine s_op (o_pick_t (u := (.bool (decide ((setNo 3 0 ([] : List Cel) [97] (true, [120]) 5) = ((readP (laidP (setNo 3 0 ([] : List Cel) [97] (true, [120]) 5) (setG 3 0 ([] : List Cel) [97] (true, [120]) 5) (setL 3 0 ([] : List Cel) [97] (true, [120]) 5))).2.1) ∧ (setG 3 0 ([] : List Cel) [97] (true, [120]) 5) = ((readP (laidP (setNo 3 0 ([] : List Cel) [97] (true, [120]) 5) (setG 3 0 ([] : List Cel) [97] (true, [120]) 5) (setL 3 0 ([] : List Cel) [97] (true, [120]) 5))).2.2.1) ∧ (setL 3 0 ([] : List Cel) [97] (true, [120]) 5) = ((readP (laidP (setNo 3 0 ([] : List Cel) [97] (true, [120]) 5) (setG 3 0 ([] : List Cel) [97] (true, [120]) 5) (setL 3 0 ([] : List Cel) [97] (true, [120]) 5))).2.2.2))))) ((rfl : _ = _).trans (congrArg Value.bool h33)) rfl ?_)
          refine s_op (o_move (v := (.bool (decide ((setNo 3 0 ([] : List Cel) [97] (true, [120]) 5) = ((readP (laidP (setNo 3 0 ([] : List Cel) [97] (true, [120]) 5) (setG 3 0 ([] : List Cel) [97] (true, [120]) 5) (setL 3 0 ([] : List Cel) [97] (true, [120]) 5))).2.1) ∧ (setG 3 0 ([] : List Cel) [97] (true, [120]) 5) = ((readP (laidP (setNo 3 0 ([] : List Cel) [97] (true, [120]) 5) (setG 3 0 ([] : List Cel) [97] (true, [120]) 5) (setL 3 0 ([] : List Cel) [97] (true, [120]) 5))).2.2.1) ∧ (setL 3 0 ([] : List Cel) [97] (true, [120]) 5) = ((readP (laidP (setNo 3 0 ([] : List Cel) [97] (true, [120]) 5) (setG 3 0 ([] : List Cel) [97] (true, [120]) 5) (setL 3 0 ([] : List Cel) [97] (true, [120]) 5))).2.2.2))))) rfl ?_)
          rcases Bool.eq_false_or_eq_true (decide ((setNo 3 0 ([] : List Cel) [97] (true, [120]) 5) = ((readP (laidP (setNo 3 0 ([] : List Cel) [97] (true, [120]) 5) (setG 3 0 ([] : List Cel) [97] (true, [120]) 5) (setL 3 0 ([] : List Cel) [97] (true, [120]) 5))).2.1) ∧ (setG 3 0 ([] : List Cel) [97] (true, [120]) 5) = ((readP (laidP (setNo 3 0 ([] : List Cel) [97] (true, [120]) 5) (setG 3 0 ([] : List Cel) [97] (true, [120]) 5) (setL 3 0 ([] : List Cel) [97] (true, [120]) 5))).2.2.1) ∧ (setL 3 0 ([] : List Cel) [97] (true, [120]) 5) = ((readP (laidP (setNo 3 0 ([] : List Cel) [97] (true, [120]) 5) (setG 3 0 ([] : List Cel) [97] (true, [120]) 5) (setL 3 0 ([] : List Cel) [97] (true, [120]) 5))).2.2.2))) with h37 | h37
          · -- (decide ((setNo 3 0 ([] : List Cel) [97] (true, [120]) 5) = ((readP (laidP (setNo 3 0 ([] : List Cel) [97] (true, [120]) 5) (setG 3 0 ([] : List Cel) [97] (true, [120]) 5) (setL 3 0 ([] : List Cel) [97] (true, [120]) 5))).2.1) ∧ (setG 3 0 ([] : List Cel) [97] (true, [120]) 5) = ((readP (laidP (setNo 3 0 ([] : List Cel) [97] (true, [120]) 5) (setG 3 0 ([] : List Cel) [97] (true, [120]) 5) (setL 3 0 ([] : List Cel) [97] (true, [120]) 5))).2.2.1) ∧ (setL 3 0 ([] : List Cel) [97] (true, [120]) 5) = ((readP (laidP (setNo 3 0 ([] : List Cel) [97] (true, [120]) 5) (setG 3 0 ([] : List Cel) [97] (true, [120]) 5) (setL 3 0 ([] : List Cel) [97] (true, [120]) 5))).2.2.2)))
            refine s_on 38 rfl (congrArg Value.bool h37) (o_loadN (cs := [(.int .i64 (setNo 3 0 ([] : List Cel) [97] (true, [120]) 5)), (.int .i64 (setG 3 0 ([] : List Cel) [97] (true, [120]) 5)), v3]) Tryd.underlying24 rfl ti24 rfl hH35 (seg_sub 2 rfl) (CellsAt.one rfl) ?_)
            refine s_on 38 rfl (congrArg Value.bool h37) (o_callf (vs := #[(.agg #[(.int .i64 (setNo 3 0 ([] : List Cel) [97] (true, [120]) 5)), (.int .i64 (setG 3 0 ([] : List Cel) [97] (true, [120]) 5)), v3]), (S [97])]) ca14 rfl (args2 rfl rfl) (pget_c (no := (setNo 3 0 ([] : List Cel) [97] (true, [120]) 5)) (gsn := (setG 3 0 ([] : List Cel) [97] (true, [120]) 5)) (l := (setL 3 0 ([] : List Cel) [97] (true, [120]) 5)) (key := [97]) hH35.all (ho5.sl.mono (seg_sub 3 rfl))) ?_)
            rintro _ w40 ⟨rfl, hX38⟩
            refine ⟨_, rfl, ?_⟩
            have hH39 := hX38.of_all
            refine s_on 38 rfl (congrArg Value.bool h37) (o_sight (v := (.agg #[(.bool true), (S [120])])) (fun _ => by kernel_rfl) ?_)
            refine s_on 38 rfl (congrArg Value.bool h37) (o_eql29 ((getC (setL 3 0 ([] : List Cel) [97] (true, [120]) 5) [97]).1) ((getC (setL 3 0 ([] : List Cel) [97] (true, [120]) 5) [97]).2) true [120] rfl rfl ?_)
            refine s_op (o_pick_t (u := (.bool (eqv29 ((getC (setL 3 0 ([] : List Cel) [97] (true, [120]) 5) [97]).1) ((getC (setL 3 0 ([] : List Cel) [97] (true, [120]) 5) [97]).2) true [120]))) ((rfl : _ = _).trans (congrArg Value.bool h37)) rfl ?_)
            refine s_op (o_assign (v := (.bool (eqv29 ((getC (setL 3 0 ([] : List Cel) [97] (true, [120]) 5) [97]).1) ((getC (setL 3 0 ([] : List Cel) [97] (true, [120]) 5) [97]).2) true [120]))) rfl ?_)
            refine s_nil ?_
            refine t_norm (hK29 _ _ ?_)
            refine wp_ret ?_
            refine c_ret1 Tryd.results9  (v := (.bool (eqv29 ((getC (setL 3 0 ([] : List Cel) [97] (true, [120]) 5) [97]).1) ((getC (setL 3 0 ([] : List Cel) [97] (true, [120]) 5) [97]).2) true [120]))) rfl ?_
            have hH41 : Has E w40 [R] := (hH39.front 4 rfl).first 1 rfl
            exact ⟨by rw [show eqv29 ((getC (setL 3 0 ([] : List Cel) [97] (true, [120]) 5) [97]).1) ((getC (setL 3 0 ([] : List Cel) [97] (true, [120]) 5) [97]).2) true [120] = true by simp only [aw11_e, aw11_no, aw11_g, aw11_l, aw11_v, readP_laid aw11_r] <;> first | done | decide | (simp; done) | ((try simp); decide)], hH41⟩
          · -- not: (decide ((setNo 3 0 ([] : List Cel) [97] (true, [120]) 5) = ((readP (laidP (setNo 3 0 ([] : List Cel) [97] (true, [120]) 5) (setG 3 0 ([] : List Cel) [97] (true, [120]) 5) (setL 3 0 ([] : List Cel) [97] (true, [120]) 5))).2.1) ∧ (setG 3 0 ([] : List Cel) [97] (true, [120]) 5) = ((readP (laidP (setNo 3 0 ([] : List Cel) [97] (true, [120]) 5) (setG 3 0 ([] : List Cel) [97] (true, [120]) 5) (setL 3 0 ([] : List Cel) [97] (true, [120]) 5))).2.2.1) ∧ (setL 3 0 ([] : List Cel) [97] (true, [120]) 5) = ((readP (laidP (setNo 3 0 ([] : List Cel) [97] (true, [120]) 5) (setG 3 0 ([] : List Cel) [97] (true, [120]) 5) (setL 3 0 ([] : List Cel) [97] (true, [120]) 5))).2.2.2)))
            exact absurd (h37.symm.trans (show _ = true by simp only [aw11_e, aw11_no, aw11_g, aw11_l, aw11_v, readP_laid aw11_r] <;> first | done | decide | (simp; done) | ((try simp); decide))) (by decide)
        · -- not: (readP (laidP (setNo 3 0 ([] : List Cel) [97] (true, [120]) 5) (setG 3 0 ([] : List Cel) [97] (true, [120]) 5) (setL 3 0 ([] : List Cel) [97] (true, [120]) 5))).1
          exact absurd (h33.symm.trans (show _ = true by simp only [aw11_e, aw11_no, aw11_g, aw11_l, aw11_v, readP_laid aw11_r] <;> first | done | decide | (simp; done) | ((try simp); decide))) (by decide)
      · -- not: (((setL 3 0 ([] : List Cel) [97] (true, [120]) 5).length : Nat) : Int) = 1
        exact absurd (by simp only [aw11_e, aw11_no, aw11_g, aw11_l, aw11_v, readP_laid aw11_r] <;> first | done | decide | (simp; done) | ((try simp); decide)) h32
    · -- not: (setG 3 0 ([] : List Cel) [97] (true, [120]) 5) = 5
      exact absurd (by simp only [aw11_e, aw11_no, aw11_g, aw11_l, aw11_v, readP_laid aw11_r] <;> first | done | decide | (simp; done) | ((try simp); decide)) h31
  · -- not: (setE 3 0 ([] : List Cel) [97] (true, [120]) 5) = 0
    exact absurd (by simp only [aw11_e, aw11_no, aw11_g, aw11_l, aw11_v, readP_laid aw11_r] <;> first | done | decide | (simp; done) | ((try simp); decide)) h30
end Go.Q
namespace Go.Q
section ops
variable {P : Program} {ρ : Operand → Value} {E w : World} {ss : List (List Hp)} {K : Value → World → Prop} {dst : Option Tmp} {T : TypeId} {pos : String} {after : Array Edge} {g : Option (Nat × Bool)}
theorem app_sub {A B C : List Hp} (h : A ⊆ C) (k : B ⊆ C) : A ++ B ⊆ C := fun _ hx => (List.mem_append.1 hx).elim (fun a => h a) (fun a => k a)
theorem o_append_full {x y : Operand} {t e : TypeId} {z u : Value} {p : Option Addr} {sz by_ n m : Nat} {cs ds : List Value} {L L2 : List Hp} (ht : P.underlying t = some (.slice e)) (hi : TI P e z sz by_)
    (hz : z.cells.size = sz) (hsz : 0 < sz) (hx : ρ x = .slice p n n) (hn : 0 < n) (hs : Sl L sz (.slice p n n) n cs) (hy : ρ y = u) (hu : Sl L2 sz u m ds) (H : Has E w ss) (hL : L ⊆ ss.flatten) (hL2 : L2 ⊆ ss.flatten)
    (hb : (n + m) * by_ ≤ 140737488355328) (h63 : n + m ≤ 9223372036854775807)
    (hK : ∀ v' hs' w', Sl (L ++ hs') sz v' (n + m) (cs ++ ds) → Has E w' (hs' :: ss) → K v' w') :
    OK P ⟨dst, .call ⟨.builtin .append, #[x, y], #[t, t]⟩, T, pos, after, g⟩ ρ w K := by
  obtain ⟨i, hi, hiz, hisz, hiby⟩ := hi
  have hs0 := hs
  obtain ⟨p', cap', he, _, _, hlc, hp'⟩ := hs
  obtain ⟨rfl, rfl⟩ : p = p' ∧ n = cap' := by cases he; exact ⟨rfl, rfl⟩
  obtain ⟨q, cap, rfl, hnc, hcm, hl, hq⟩ := hu
  obtain ⟨b, off, rfl, hc⟩ := hp' hn
  by_cases hm : m = 0
  · subst hm
    have hds : ds = [] := by simpa using hl
    subst hds
    refine o_call_builtin (v := .slice (some ⟨b, off, none⟩) n n) (w' := w) ?_ (hK _ [] w (by simpa using hs0) (Has.nil H))
    cases q <;> simp [hx, hy, builtin, Builtin.append_, run_underlying ht, sizeOf, typeInfo, hi, Builtin.lenOf, Builtin.firstCells, loadCells, loadCellsFrom, storeCells]
  · obtain ⟨b2, off2, rfl, hc2⟩ := hq (by omega)
    obtain ⟨v', w', hr, ho, hg⟩ := run_append_arg_grows (P := P) w t T e i z sz by_ ht hi hiz hisz hiby hz hsz ⟨b, off, none⟩ n n cs hlc (fun j u hj => by rw [add_lit]; exact H.cell hL hc hj)
      ⟨b2, off2, none⟩ m cap ds hl (fun j u hj => by rw [add_lit]; exact H.cell hL2 hc2 hj) (by omega) (by simpa [maxLen] using h63) hb
    obtain ⟨hl', ⟨_, h0⟩ | ⟨k, cap'', cur, rfl, hk, hbk, h1, h2, h3, h4⟩⟩ := ho
    · omega
    · have hH : Has E w' ([Hp.one k (.cells cur e (0, 0))] :: ss) := by
        refine Has0.write (an := []) (an' := [Hp.one k (.cells cur e (0, 0))]) (hs := ss.flatten) H hg.os hg.tape hg.output (by simp) (fun j _ => ?_) ?_ (fun j hj _ => hg.block j hj (fun e => by cases e))
        · by_cases hjk : j = k
          · subst hjk; exact .inr hk
          · refine .inl fun h hh => ?_
            rw [List.mem_singleton.1 hh]; unfold Hp.one; rw [if_neg hjk]
        · intro h hh j o hj
          rw [List.mem_singleton.1 hh] at hj
          obtain ⟨rfl, rfl⟩ := Hp.one_some hj
          exact hbk
      refine o_call_builtin (v := .slice (some ⟨k, 0, none⟩) (n + m) cap'') (w' := w') ?_ (hK _ [Hp.one k (.cells cur e (0, 0))] w' ?_ hH)
      · simp only [hx, hy, builtin, List.map_toArray, List.map_cons, List.map_nil, Sem.run_bind, hr, Result.andThen_ok, Sem.run_pure]
      · refine ⟨_, cap'', rfl, h1, by simpa [maxLen] using h2, hl', fun _ => ⟨k, 0, rfl, ?_⟩⟩
        refine CellsAt.mono (CellsAt.one ?_) (fun a ha => List.mem_append_right _ ha)
        rw [List.drop_zero, hl', h4]
end ops
end Go.Q
