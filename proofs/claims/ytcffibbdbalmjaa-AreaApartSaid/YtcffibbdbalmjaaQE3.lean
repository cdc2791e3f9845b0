/-
  Parts of a walk: what functions of the program compute, each told by a theorem.
-/
import Derived.Test.YtcffibbdbalmjaaQE2
import Derived.Test.YtcffibbdbalmjaaQG
import Derived.Test.YtcffibbdbalmjaaQF4
set_option linter.unusedVariables false
set_option linter.unusedSimpArgs false
namespace Go.Q
open Go.Proofs
set_option linter.unusedVariables false
set_option maxRecDepth 100000
attribute [local irreducible] wpList OK Code.wp
theorem own_raw {e : TypeId} {n : Nat} {v : Value} {cs : List Value} {hs : List Hp} (h : Own e 1 v n cs hs) (hn : 0 < n) : ∃ b cap cur, v = .slice (some ⟨b, 0, none⟩) n cap ∧ hs = [Hp.one b (.cells cur e (0, 0))] ∧ n ≤ cap ∧ cap ≤ maxLen ∧ cur.size = cap := by
  obtain ⟨_, ⟨_, h, _⟩ | ⟨b, cap, cur, h1, h2, h3, h4, h5, _⟩⟩ := h
  · omega
  · exact ⟨b, cap, cur, h1, h2, h3, h4, by omega⟩
theorem rep_step {c c' : Array Value} {k N : Nat} {x : Value} (hk : 1 ≤ k) (hN : k ≤ N) (hs : N ≤ c.size) (h : c.toList.take k = List.replicate k x) (q : c'.toList = if 0 < min k (N - k) then c.toList.take (0 + k) ++ ((c.toList.drop 0).take (k * 1)).take (min k (N - k) * 1) ++ c.toList.drop (0 + k + min k (N - k) * 1) else c.toList) :
    c'.toList.take (k + min k (N - k)) = List.replicate (k + min k (N - k)) x := by
  by_cases g : 0 < min k (N - k)
  · rw [if_pos g, Nat.zero_add, List.drop_zero, Nat.mul_one, Nat.mul_one, h, List.take_replicate, List.replicate_append_replicate] at q
    rw [q, List.take_append_of_le_length (by rw [List.length_replicate]; omega), List.take_replicate]
    congr 1; omega
  · rw [if_neg g] at q
    have : min k (N - k) = 0 := by omega
    rw [q, this, Nat.add_zero]; exact h
theorem rep_step2 {c c' : Array Value} {k N o n so m : Nat} {x : Value} (hk : 1 ≤ k) (hN : k ≤ N) (hs : N ≤ c.size) (h : c.toList.take k = List.replicate k x)
    (q : c'.toList = if 0 < min m n then c.toList.take o ++ ((c.toList.drop so).take (m * 1)).take (min m n * 1) ++ c.toList.drop (o + min m n * 1) else c.toList) (hn : n = N - k) (hm : m = k) (hso : so = 0) (ho : 0 < n → o = k) :
    c'.toList.take (k + min k (N - k)) = List.replicate (k + min k (N - k)) x := by
  subst hn hm hso
  refine rep_step hk hN hs h ?_
  rw [q]
  by_cases g : 0 < min m (N - m)
  · rw [if_pos g, if_pos g, ho (by omega), Nat.zero_add]
  · rw [if_neg g, if_neg g]
theorem rep_one {c : Array Value} {k so m : Nat} {x u : Value} (h : c.toList.take k = List.replicate k x) (hu : u ∈ (c.toList.drop so).take (m * 1)) (hso : so = 0) (hm : m = k) (hx : x.oneCell' = true) : u.oneCell' = true := by
  subst hso hm
  rw [List.drop_zero, Nat.mul_one, h] at hu
  rw [(List.mem_replicate.1 hu).2]; exact hx
set_option maxHeartbeats 4000000 in
theorem srepeat_c {E w : World} {R : List Hp} (hH : Has E w [R]) {v : Value} {s : Bs} (hv : Sl R 1 v 1 ([s].map sV)) {n : Nat} (hn : 0 < n ∧ n ≤ 1000000) :
    Calls Try.prog 75 #[v, (.int .i64 (n : Int))] w fun e w' => ∃ v' hs', e = .returned v' ∧ Own 9 1 v' (List.replicate n s).length ((List.replicate n s).map sV) hs' ∧ Has E w' [hs', R] := by
  refine c_enter (args := [v, (.int .i64 (n : Int))]) Try.func75 rfl Try.ntmps75 (by simp) ?_
  refine wp_seq_k fun K1 hK1 => ?_
  refine c_region ?_
  refine s_op (o_assign (v := (.slice none 0 0)) rfl ?_)
  refine s_nil ?_
  refine t_norm (hK1 _ _ ?_)
  refine wp_seq_k fun K2 hK2 => ?_
  refine wp_seq_k fun K3 hK3 => ?_
  refine c_region ?_
  refine s_op (o_move (v := (.int .i64 (n : Int))) rfl ?_)
  refine s_op (o_lss (a := (n : Int)) (b := 0) rfl rfl ?_)
  refine s_nil ?_
  refine t_norm (hK3 _ _ ?_)
  refine c_cond rfl (fun h4 => ?_) (fun h4 => ?_)
  · -- (n : Int) < 0
    exfalso; omega
  · -- not: (n : Int) < 0
    refine wp_skip ?_
    refine t_norm (hK2 _ _ ?_)
    refine wp_seq_k fun K5 hK5 => ?_
    refine c_region ?_
    refine s_op (o_move (v := v) rfl ?_)
    refine s_op (o_lenS Try.underlying53 rfl hv ?_)
    refine s_op (o_conv (c := ((1 : Nat) : Int)) Try.underlying3 Try.underlying204 rfl (wu64 (by omega) (by omega)) ?_)
    refine s_op (o_move (v := (.int .i64 (n : Int))) rfl ?_)
    refine s_op (o_conv (c := (n : Int)) Try.underlying3 Try.underlying204 rfl (wu64 (by omega) (by omega)) ?_)
    refine s_op (o_callf (vs := #[(.int .u64 ((1 : Nat) : Int)), (.int .u64 (n : Int))]) ca118 rfl (args2 rfl rfl) (mul_c hH.all 1 n (by omega) (by omega) (by omega)) ?_)
    rintro _ w8 ⟨rfl, hX6⟩
    refine ⟨_, rfl, ?_⟩
    have hH7 := hX6.of_all
    refine s_op (o_move (v := (.tuple #[(.int .u64 (0 : Int)), (.int .u64 ((1 * n : Nat) : Int))])) rfl ?_)
    refine s_op (o_extract (v := (.int .u64 (0 : Int))) rfl rfl ?_)
    refine s_op (o_extract (v := (.int .u64 ((1 * n : Nat) : Int))) rfl rfl ?_)
    refine s_op (o_assign (v := (.int .u64 (0 : Int))) rfl ?_)
    refine s_op (o_assign (v := (.int .u64 ((1 * n : Nat) : Int))) rfl ?_)
    refine s_nil ?_
    refine t_norm (hK5 _ _ ?_)
    refine wp_seq_k fun K9 hK9 => ?_
    refine wp_seq_k fun K10 hK10 => ?_
    refine c_region ?_
    refine s_op (o_move (v := (.int .u64 (0 : Int))) rfl ?_)
    refine s_op (o_gtr (a := (0 : Int)) (b := 0) rfl rfl ?_)
    refine s_op (o_move (v := (.bool (decide (0 < (0 : Int))))) rfl ?_)
    by_cases h11 : 0 < (0 : Int)
    · -- 0 < (0 : Int)
      exfalso; omega
    · -- not: 0 < (0 : Int)
      refine s_on 23 rfl (congrArg Value.bool (decide_eq_false h11)) (o_move (v := (.int .u64 ((1 * n : Nat) : Int))) rfl ?_)
      refine s_on 23 rfl (congrArg Value.bool (decide_eq_false h11)) (o_gtr (a := ((1 * n : Nat) : Int)) (b := 9223372036854775807) rfl rfl ?_)
      refine s_op (o_pick_f (u := (.bool (decide (9223372036854775807 < ((1 * n : Nat) : Int))))) ((rfl : _ = _).trans (congrArg Value.bool (decide_eq_false h11))) rfl ?_)
      refine s_nil ?_
      refine t_norm (hK10 _ _ ?_)
      refine c_cond rfl (fun h12 => ?_) (fun h12 => ?_)
      · -- 9223372036854775807 < ((1 * n : Nat) : Int)
        exfalso; omega
      · -- not: 9223372036854775807 < ((1 * n : Nat) : Int)
        refine wp_skip ?_
        refine t_norm (hK9 _ _ ?_)
        refine wp_seq_k fun K13 hK13 => ?_
        refine c_region ?_
        refine s_op (o_move (v := (.int .u64 ((1 * n : Nat) : Int))) rfl ?_)
        refine s_op (o_conv (c := ((1 * n : Nat) : Int)) Try.underlying204 Try.underlying3 rfl (w64 (by omega) (by omega)) ?_)
        refine s_op (o_make Try.underlying53 ti9 rfl rfl (by omega) (by omega) (by omega) (by omega) hH7 fun v14 s15 w17 ho16 hH18 => ?_)
        rw [show (((1 * n : Nat) : Int)).toNat = n from by omega] at ho16
        obtain ⟨nb, ncp, nc, rfl, rfl, hnc1, hnc2, hnc3⟩ := own_raw ho16 hn.1
        simp only [maxLen] at hnc2
        refine s_op (o_assign (v := (.slice (some ⟨nb, 0, none⟩) n ncp)) rfl ?_)
        refine s_nil ?_
        refine t_norm (hK13 _ _ ?_)
        refine wp_seq_k fun K19 hK19 => ?_
        refine c_region ?_
        refine s_op (o_move (v := (.slice (some ⟨nb, 0, none⟩) n ncp)) rfl ?_)
        refine s_op (o_move (v := v) rfl ?_)
        refine s_op (o_copy (ds := ([s].map sV)) Try.underlying53 ti9 rfl rfl hv hH18 (seg_sub 1 rfl) (by omega) (by intro u hu; first | (have := List.mem_of_mem_take hu; simp at this; rw [this]; rfl) | exact rep_one hcc (List.mem_of_mem_take hu) (by omega) (by omega) rfl) fun c20 w21 hz24 hc22 hH23 => ?_)
        refine s_op (o_assign (v := (.int .i64 ((min 1 n : Nat) : Int))) rfl ?_)
        refine s_nil ?_
        refine t_norm (hK19 _ _ ?_)
        refine wp_seq_k fun K25 hK25 => ?_
        refine wp_block ?_
        have hm1 : min 1 n = 1 := by omega
        rw [hm1] at hc22
        let I27 : Nat → (Nat → Value) → World → Prop := fun n__ r__ w__ => ∃ (k : Nat) (cc : Array Value), n__ = n - k ∧ Has E w__ [[Hp.one nb (.cells cc 9 (0, 0))], R] ∧ (1 ≤ k ∧ k ≤ n) ∧ (cc.size = ncp) ∧ (cc.toList.take k = List.replicate k (S s)) ∧ r__ 0 = v ∧ r__ 1 = (.int .i64 (n : Int)) ∧ r__ 4 = (.slice none 0 0) ∧ r__ 5 = (.int .u64 (0 : Int)) ∧ r__ 6 = (.int .u64 ((1 * n : Nat) : Int)) ∧ r__ 7 = (.slice (some ⟨nb, 0, none⟩) n ncp) ∧ r__ 8 = (.int .i64 (k : Int)) ∧ r__ 10 = (.bool (decide ((n : Int) < 0))) ∧ r__ 26 = (.bool (decide (9223372036854775807 < ((1 * n : Nat) : Int))))
        refine c_loop I27 _ ⟨1, c20, rfl, hH23, (by omega), (by omega), (by rw [hc22]; rfl), rfl, rfl, rfl, rfl, rfl, rfl, (by show Value.int .i64 ((min 1 n : Nat) : Int) = _; rw [hm1]), rfl, rfl⟩ ?_
        rintro n_ r30 w28 ⟨k, cc, rfl, hH29, hk, hcs, hcc, e26_0, e26_1, e26_4, e26_5, e26_6, e26_7, e26_8, e26_10, e26_26⟩
        refine wp_seq_k fun K31 hK31 => ?_
        refine wp_seq_k fun K32 hK32 => ?_
        refine c_region ?_
        refine s_op (o_move (v := (.int .i64 (k : Int))) e26_8 ?_)
        refine s_op (o_move (v := (.slice (some ⟨nb, 0, none⟩) n ncp)) e26_7 ?_)
        refine s_op (o_len Try.underlying53 rfl ?_)
        refine s_op (o_lss (a := (k : Int)) (b := (n : Int)) rfl rfl ?_)
        refine s_nil ?_
        refine t_norm (hK32 _ _ ?_)
        refine c_cond rfl (fun h33 => ?_) (fun h33 => ?_)
        · -- (k : Int) < (n : Int)
          refine wp_skip ?_
          refine t_norm (hK31 _ _ ?_)
          refine wp_block ?_
          obtain ⟨o34, n35, c36, ho40, hn37, hc38, hq39⟩ := rsl_ex 0 1 (i := (k : Int)) (j := ((n : Nat) : Int)) (m := ((ncp : Nat) : Int)) (by omega) (by omega) (by omega)
          obtain ⟨o41, n42, c43, ho47, hn44, hc45, hq46⟩ := rsl_ex 0 1 (i := 0) (j := (k : Int)) (m := ((ncp : Nat) : Int)) (by omega) (by omega) (by omega)
          have hH53 : Has E w28 [R, [Hp.one nb (.cells cc 9 (0, 0))]] := (hH29.front 1 rfl).first 2 rfl
          refine c_flow [R] (fun i_ => match i_ with | 7 => [Hp.one nb (.cells cc 9 (0, 0))] | _ => []) (fun i_ v_ h_ => match i_ with | 0 => v_ = (.int .i64 (k : Int)) ∧ h_ = [] | 1 => v_ = (.slice (some ⟨nb, 0, none⟩) n ncp) ∧ h_ = [] | 2 => v_ = (.int .i64 (k : Int)) ∧ h_ = [] | 3 => v_ = (.slice (some ⟨nb, o34, none⟩) n35 c36) ∧ h_ = [] | 4 => v_ = (.slice (some ⟨nb, 0, none⟩) n ncp) ∧ h_ = [] | 5 => v_ = (.int .i64 (k : Int)) ∧ h_ = [] | 6 => v_ = (.slice (some ⟨nb, o41, none⟩) n42 c43) ∧ h_ = [] | 7 => ∃ (c48 : Array Value), v_ = (.int .i64 ((min n42 n35 : Nat) : Int)) ∧ h_ = [Hp.one nb (.cells c48 9 (0, 0))] ∧ (c48.size = cc.size) ∧ (c48.toList = (if 0 < min n42 n35 then cc.toList.take o34 ++ ((cc.toList.drop o41).take (n42 * 1)).take (min n42 n35 * 1) ++ cc.toList.drop (o34 + min n42 n35 * 1) else cc.toList)) | 8 => v_ = (.int .i64 ((k : Int) + ((min n42 n35 : Nat) : Int))) ∧ h_ = [] | 9 => v_ = (.int .i64 ((k : Int) + ((min n42 n35 : Nat) : Int))) ∧ h_ = [] | _ => True) mixed (by kernel_rfl) (flow_has (cs := [[Hp.one nb (.cells cc 9 (0, 0))]]) hH53 rfl) ?_ ?_
          · intro i_ o_ ho_ r' w' G hs_ ht
            match i_, ho_ with
            | 0, ho_ =>
              obtain rfl := Option.some.inj ho_
              have e8 : r' 8 = (.int .i64 (k : Int)) := (ht.was 8 (by kernel_rfl)).trans e26_8
              have hG := ht.has.drop
              refine o_move (v := (.int .i64 (k : Int))) e8 ?_
              exact ⟨_, ⟨rfl, rfl⟩, hG⟩
            | 1, ho_ =>
              obtain rfl := Option.some.inj ho_
              have e7 : r' 7 = (.slice (some ⟨nb, 0, none⟩) n ncp) := (ht.was 7 (by kernel_rfl)).trans e26_7
              have hG := ht.has.drop
              refine o_move (v := (.slice (some ⟨nb, 0, none⟩) n ncp)) e7 ?_
              exact ⟨_, ⟨rfl, rfl⟩, hG⟩
            | 2, ho_ =>
              obtain rfl := Option.some.inj ho_
              have e8 : r' 8 = (.int .i64 (k : Int)) := (ht.was 8 (by kernel_rfl)).trans e26_8
              have hG := ht.has.drop
              refine o_move (v := (.int .i64 (k : Int))) e8 ?_
              exact ⟨_, ⟨rfl, rfl⟩, hG⟩
            | 3, ho_ =>
              obtain rfl := Option.some.inj ho_
              obtain ⟨e39, eh1⟩ := (ht.done 1 _ rfl rfl).1
              obtain ⟨e40, eh2⟩ := (ht.done 2 _ rfl rfl).1
              have hG := ht.has.drop
              refine o_rsl2 (i := (k : Int)) (j := ((n : Nat) : Int)) (m := ((ncp : Nat) : Int)) Try.underlying53 ti9 e39 (fun w => by simp only [Option.map_some, Option.map_none, show ev 48 r' (.tmp 40) = _ from e40]; exact bounds_l (n := n) (cap := ncp) (i := (k : Int)) (by omega) (by omega) w) (by omega) (by omega) (by omega) ho40 hn37 hc38 ?_
              exact ⟨_, ⟨rfl, rfl⟩, hG⟩
            | 4, ho_ =>
              obtain rfl := Option.some.inj ho_
              have e7 : r' 7 = (.slice (some ⟨nb, 0, none⟩) n ncp) := (ht.was 7 (by kernel_rfl)).trans e26_7
              have hG := ht.has.drop
              refine o_move (v := (.slice (some ⟨nb, 0, none⟩) n ncp)) e7 ?_
              exact ⟨_, ⟨rfl, rfl⟩, hG⟩
            | 5, ho_ =>
              obtain rfl := Option.some.inj ho_
              have e8 : r' 8 = (.int .i64 (k : Int)) := (ht.was 8 (by kernel_rfl)).trans e26_8
              have hG := ht.has.drop
              refine o_move (v := (.int .i64 (k : Int))) e8 ?_
              exact ⟨_, ⟨rfl, rfl⟩, hG⟩
            | 6, ho_ =>
              obtain rfl := Option.some.inj ho_
              obtain ⟨e42, eh4⟩ := (ht.done 4 _ rfl rfl).1
              obtain ⟨e43, eh5⟩ := (ht.done 5 _ rfl rfl).1
              have hG := ht.has.drop
              refine o_rsl2 (i := 0) (j := (k : Int)) (m := ((ncp : Nat) : Int)) Try.underlying53 ti9 e42 (fun w => by simp only [Option.map_some, Option.map_none, show ev 48 r' (.tmp 43) = _ from e43]; exact bounds_h (n := n) (cap := ncp) (j := (k : Int)) (by omega) (by omega) w) (by omega) (by omega) (by omega) ho47 hn44 hc45 ?_
              exact ⟨_, ⟨rfl, rfl⟩, hG⟩
            | 7, ho_ =>
              obtain rfl := Option.some.inj ho_
              obtain ⟨e41, eh3⟩ := (ht.done 3 _ rfl rfl).1
              obtain ⟨e44, eh6⟩ := (ht.done 6 _ rfl rfl).1
              have hG := ht.has
              refine o_copy (ds := (cc.toList.drop o41).take (n42 * 1)) Try.underlying53 ti9 e41 e44 (sl_raw (b := nb) (o := o41) (sz := 1) (n := n42) (cap := c43) (c := cc) (e := 9) (g := (0, 0)) (by omega) (by omega) (by omega)) hG sub_l (by omega) (by intro u hu; first | (have := List.mem_of_mem_take hu; simp at this; rw [this]; rfl) | exact rep_one hcc (List.mem_of_mem_take hu) (by omega) (by omega) rfl) fun c48 w49 hz52 hc50 hH51 => ?_
              exact ⟨_, ⟨c48, rfl, rfl, hz52, hc50⟩, hH51⟩
            | 8, ho_ =>
              obtain rfl := Option.some.inj ho_
              obtain ⟨e38, eh0⟩ := (ht.done 0 _ rfl rfl).1
              obtain ⟨c48, e45, eh7, hz52, hc50⟩ := (ht.done 7 _ rfl rfl).1
              have hG := ht.has.drop
              refine o_add (a := (k : Int)) (b := ((min n42 n35 : Nat) : Int)) e38 e45 (w64 (by omega) (by omega)) ?_
              exact ⟨_, ⟨rfl, rfl⟩, hG⟩
            | 9, ho_ =>
              obtain rfl := Option.some.inj ho_
              obtain ⟨c48, e45, eh7, hz52, hc50⟩ := (ht.done 7 _ rfl rfl).1
              obtain ⟨e46, eh8⟩ := (ht.done 8 _ rfl rfl).1
              have hG := ht.has.drop
              refine o_assign (v := (.int .i64 ((k : Int) + ((min n42 n35 : Nat) : Int)))) e46 ?_
              exact ⟨_, ⟨rfl, rfl⟩, hG⟩
            | i_ + 10, ho_ => exact absurd ho_ (by simp)
          · intro vs53 hs54 w55 hT56 hH57
            obtain ⟨e0_, eh0_⟩ := hT56 0 _ rfl
            obtain ⟨e1_, eh1_⟩ := hT56 1 _ rfl
            obtain ⟨e2_, eh2_⟩ := hT56 2 _ rfl
            obtain ⟨e3_, eh3_⟩ := hT56 3 _ rfl
            obtain ⟨e4_, eh4_⟩ := hT56 4 _ rfl
            obtain ⟨e5_, eh5_⟩ := hT56 5 _ rfl
            obtain ⟨e6_, eh6_⟩ := hT56 6 _ rfl
            obtain ⟨c48, e7_, eh7_, hz52, hc50⟩ := hT56 7 _ rfl
            obtain ⟨e8_, eh8_⟩ := hT56 8 _ rfl
            obtain ⟨e9_, eh9_⟩ := hT56 9 _ rfl
            have hH58 : Has E w55 ([R] ++ [[Hp.one nb (.cells c48 9 (0, 0))]]) := flow_back (cs := [[Hp.one nb (.cells c48 9 (0, 0))]]) hH57 (by show (hs54 0 ++ (hs54 1 ++ (hs54 2 ++ (hs54 3 ++ (hs54 4 ++ (hs54 5 ++ (hs54 6 ++ (hs54 7 ++ (hs54 8 ++ (hs54 9 ++ [])))))))))) = _; rw [eh0_, eh1_, eh2_, eh3_, eh4_, eh5_, eh6_, eh7_, eh8_, eh9_]; rfl)
            generalize hr60 : puts vs53 _ 0 _ = r59
            have e61_0 : r59 0 = v := by rw [← hr60]; exact e26_0
            have e61_1 : r59 1 = (.int .i64 (n : Int)) := by rw [← hr60]; exact e26_1
            have e61_4 : r59 4 = (.slice none 0 0) := by rw [← hr60]; exact e26_4
            have e61_5 : r59 5 = (.int .u64 (0 : Int)) := by rw [← hr60]; exact e26_5
            have e61_6 : r59 6 = (.int .u64 ((1 * n : Nat) : Int)) := by rw [← hr60]; exact e26_6
            have e61_7 : r59 7 = (.slice (some ⟨nb, 0, none⟩) n ncp) := by rw [← hr60]; exact e26_7
            have e61_8 : r59 8 = (.int .i64 ((k : Int) + ((min n42 n35 : Nat) : Int))) := by rw [← hr60]; exact e9_
            have e61_10 : r59 10 = (.bool (decide ((n : Int) < 0))) := by rw [← hr60]; exact e26_10
            have e61_26 : r59 26 = (.bool (decide (9223372036854775807 < ((1 * n : Nat) : Int)))) := by rw [← hr60]; exact e26_26
            have e61_37 : r59 37 = (.bool (decide ((k : Int) < (n : Int)))) := by rw [← hr60]; exact rfl
            refine b_norm ?_
            have rstep := rep_step2 hk.1 hk.2 (by omega) hcc hc50 (by omega) (by omega) (by omega) (by omega)
            have hH62 : Has E w55 [[Hp.one nb (.cells c48 9 (0, 0))], R] := (hH58.front 1 rfl).first 2 rfl
            refine t_norm ⟨n - (k + min k (n - k)), _, rfl, ?_, ?_⟩
            · omega
            · exact ⟨(k + min k (n - k)), c48, rfl, hH62, (by omega), (by rw [hz52]; exact hcs), (rstep), e61_0, e61_1, e61_4, e61_5, e61_6, e61_7, (Eq.trans e61_8 (by congr 1; omega)), e61_10, e61_26⟩
        · -- not: (k : Int) < (n : Int)
          refine wp_exit ?_
          refine t_exit (t_exit (x_in (?_)))
          refine t_norm (hK25 _ _ ?_)
          refine wp_seq_k fun K63 hK63 => ?_
          refine c_region ?_
          refine s_op (o_move (v := (.slice (some ⟨nb, 0, none⟩) n ncp)) e26_7 ?_)
          refine s_op (o_assign (v := (.slice (some ⟨nb, 0, none⟩) n ncp)) rfl ?_)
          refine s_nil ?_
          refine t_norm (hK63 _ _ ?_)
          refine wp_ret ?_
          refine c_ret1 Try.results75  (v := (.slice (some ⟨nb, 0, none⟩) n ncp)) rfl ?_
          have e_ : k = n := by omega
          subst e_
          exact ⟨_, _, rfl, ⟨by simp, .inr ⟨nb, ncp, cc, by rw [List.length_replicate], rfl, by rw [List.length_replicate]; omega, by simp only [maxLen]; omega, by omega, by rw [List.length_replicate, Nat.mul_one, hcc, List.map_replicate]; rfl⟩⟩, hH29⟩
end Go.Q
