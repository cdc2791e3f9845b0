/-
  Parts of a walk: what functions of the program compute, each told by a theorem.
-/
import Derived.Test.YtcffibbdbalmjaaQE9
import Derived.Test.YtcffibbdbalmjaaQF5
import Derived.Test.YtcffibbdbalmjaaQDevM
import Derived.Test.YtcffibbdbalmjaaQApp
set_option linter.unusedVariables false
set_option linter.unusedSimpArgs false
namespace Go.Q
open Go.Proofs
set_option linter.unusedVariables false
set_option maxRecDepth 100000
attribute [local irreducible] wpList OK Code.wp
set_option maxHeartbeats 4000000 in
theorem muse_c {E w : World} {R : List Hp} {qb : Nat} {q : Pw} (hH : Has E w [[Hp.one qb (.cells #[(.bool q.off), (.bool q.armed), (.int .i64 q.left), (.int .i64 q.uses)] 112 (0, 0))], R]) (hq : PwOk q) :
    Calls Try.prog 104 #[(.pointer (some ⟨qb, 0, none⟩))] w fun e w' => e = .returned (.bool (useMB q)) ∧ Has E w' [[Hp.one qb (.cells #[(.bool (useM q).off), (.bool (useM q).armed), (.int .i64 (useM q).left), (.int .i64 (useM q).uses)] 112 (0, 0))], R] := by
  obtain ⟨hu1, hu2, hu3, hu4⟩ := hq
  refine c_enter (args := [(.pointer (some ⟨qb, 0, none⟩))]) Try.func104 rfl Try.ntmps104 (by simp) ?_
  refine wp_seq_k fun K1 hK1 => ?_
  refine c_region ?_
  refine s_op (o_assign (v := (.bool false)) rfl ?_)
  refine s_nil ?_
  refine t_norm (hK1 _ _ ?_)
  refine wp_seq_k fun K2 hK2 => ?_
  refine wp_seq_k fun K3 hK3 => ?_
  refine c_region ?_
  refine s_op (o_move (v := (.pointer (some ⟨qb, 0, none⟩))) rfl ?_)
  refine s_op (o_nilCheck rfl ?_)
  refine s_op (o_fieldAddr (k := 0) (fun _ => by kernel_rfl) rfl ?_)
  refine s_op (o_load1 (v := (.bool q.off)) Try.underlying4 rfl rfl hH (seg_sub 0 rfl) (CellsAt.one rfl) ?_)
  refine s_nil ?_
  refine t_norm (hK3 _ _ ?_)
  refine c_condb rfl (fun h4 => ?_) (fun h4 => ?_)
  · -- q.off
    refine wp_seq_k fun K5 hK5 => ?_
    refine c_region ?_
    refine s_op (o_assign (v := (.bool false)) rfl ?_)
    refine s_nil ?_
    refine t_norm (hK5 _ _ ?_)
    refine wp_ret ?_
    refine t_ret (c_ret1 Try.results104  (v := (.bool false)) rfl ?_)
    have e_ : useM q = q := by simp [useM, h4]
    exact ⟨by simp [useMB, h4], by rw [e_]; exact hH⟩
  · -- not: q.off
    refine wp_skip ?_
    refine t_norm (hK2 _ _ ?_)
    refine wp_seq_k fun K6 hK6 => ?_
    refine c_region ?_
    refine s_op (o_move (v := (.pointer (some ⟨qb, 0, none⟩))) rfl ?_)
    refine s_op (o_nilCheck rfl ?_)
    refine s_op (o_fieldAddr (k := 3) (fun _ => by kernel_rfl) rfl ?_)
    refine s_op (o_load1 (v := (.int .i64 q.uses)) Try.underlying3 rfl rfl hH (seg_sub 0 rfl) (CellsAt.one rfl) ?_)
    refine s_op (o_add (a := q.uses) (b := 1) rfl rfl (w64 (by omega) (by omega)) ?_)
    refine s_op (o_nilCheck rfl ?_)
    refine s_op (o_fieldAddr (k := 3) (fun _ => by kernel_rfl) rfl ?_)
    refine s_eff (o_store1 (c' := #[(.bool q.off), (.bool q.armed), (.int .i64 q.left), (.int .i64 (q.uses + 1))]) ti3 rfl rfl rfl (by simp) rfl (hH.front 0 rfl) fun w7 hH8 => ?_)
    refine s_nil ?_
    refine t_norm (hK6 _ _ ?_)
    refine wp_seq_k fun K9 hK9 => ?_
    refine wp_seq_k fun K10 hK10 => ?_
    refine c_region ?_
    refine s_op (o_move (v := (.pointer (some ⟨qb, 0, none⟩))) rfl ?_)
    refine s_op (o_nilCheck rfl ?_)
    refine s_op (o_fieldAddr (k := 1) (fun _ => by kernel_rfl) rfl ?_)
    refine s_op (o_load1 (v := (.bool q.armed)) Try.underlying4 rfl rfl hH8 (seg_sub 0 rfl) (CellsAt.one rfl) ?_)
    refine s_op (o_move (v := (.bool q.armed)) rfl ?_)
    rcases Bool.eq_false_or_eq_true q.armed with h11 | h11
    · -- q.armed
      refine s_on 18 rfl (congrArg Value.bool h11) (o_move (v := (.pointer (some ⟨qb, 0, none⟩))) rfl ?_)
      refine s_on 18 rfl (congrArg Value.bool h11) (o_nilCheck rfl ?_)
      refine s_on 18 rfl (congrArg Value.bool h11) (o_fieldAddr (k := 2) (fun _ => by kernel_rfl) rfl ?_)
      refine s_on 18 rfl (congrArg Value.bool h11) (o_load1 (v := (.int .i64 q.left)) Try.underlying3 rfl rfl hH8 (seg_sub 0 rfl) (CellsAt.one rfl) ?_)
      refine s_on 18 rfl (congrArg Value.bool h11) (o_eql (a := q.left) (b := 0) rfl rfl ?_)
      refine s_op (o_pick_t (u := (.bool (decide (q.left = 0)))) ((rfl : _ = _).trans (congrArg Value.bool h11)) rfl ?_)
      refine s_nil ?_
      refine t_norm (hK10 _ _ ?_)
      refine c_cond rfl (fun h12 => ?_) (fun h12 => ?_)
      · -- q.left = 0
        refine wp_seq_k fun K13 hK13 => ?_
        refine c_region ?_
        refine s_op (o_move (v := (.pointer (some ⟨qb, 0, none⟩))) rfl ?_)
        refine s_op (o_nilCheck rfl ?_)
        refine s_op (o_fieldAddr (k := 0) (fun _ => by kernel_rfl) rfl ?_)
        refine s_eff (o_store1 (c' := #[(.bool true), (.bool q.armed), (.int .i64 q.left), (.int .i64 (q.uses + 1))]) ti4 rfl rfl rfl (by simp) rfl (hH8.front 0 rfl) fun w14 hH15 => ?_)
        refine s_nil ?_
        refine t_norm (hK13 _ _ ?_)
        refine wp_seq_k fun K16 hK16 => ?_
        refine c_region ?_
        refine s_op (o_assign (v := (.bool false)) rfl ?_)
        refine s_nil ?_
        refine t_norm (hK16 _ _ ?_)
        refine wp_ret ?_
        refine t_ret (c_ret1 Try.results104  (v := (.bool false)) rfl ?_)
        have e_ : useM q = ⟨true, q.armed, q.left, q.uses + 1⟩ := by simp [useM, h4, h11, h12]
        exact ⟨by simp [useMB, h4, h11, h12], by rw [e_]; exact hH15⟩
      · -- not: q.left = 0
        refine wp_skip ?_
        refine t_norm (hK9 _ _ ?_)
        refine wp_seq_k fun K17 hK17 => ?_
        refine c_region ?_
        refine s_op (o_move (v := (.pointer (some ⟨qb, 0, none⟩))) rfl ?_)
        refine s_op (o_nilCheck rfl ?_)
        refine s_op (o_fieldAddr (k := 2) (fun _ => by kernel_rfl) rfl ?_)
        refine s_op (o_load1 (v := (.int .i64 q.left)) Try.underlying3 rfl rfl hH8 (seg_sub 0 rfl) (CellsAt.one rfl) ?_)
        refine s_op (o_sub (a := q.left) (b := 1) rfl rfl (w64 (by omega) (by omega)) ?_)
        refine s_op (o_nilCheck rfl ?_)
        refine s_op (o_fieldAddr (k := 2) (fun _ => by kernel_rfl) rfl ?_)
        refine s_eff (o_store1 (c' := #[(.bool q.off), (.bool q.armed), (.int .i64 (q.left - 1)), (.int .i64 (q.uses + 1))]) ti3 rfl rfl rfl (by simp) rfl (hH8.front 0 rfl) fun w18 hH19 => ?_)
        refine s_nil ?_
        refine t_norm (hK17 _ _ ?_)
        refine wp_seq_k fun K20 hK20 => ?_
        refine c_region ?_
        refine s_op (o_assign (v := (.bool true)) rfl ?_)
        refine s_nil ?_
        refine t_norm (hK20 _ _ ?_)
        refine wp_ret ?_
        refine c_ret1 Try.results104  (v := (.bool true)) rfl ?_
        have e_ : useM q = ⟨q.off, q.armed, q.left - 1, q.uses + 1⟩ := by simp [useM, h4, h11, h12]
        exact ⟨by simp [useMB, h4, h11, h12], by rw [e_]; exact hH19⟩
    · -- not: q.armed
      refine s_off (b' := false) 18 rfl (congrArg Value.bool h11) rfl ?_
      refine s_off (b' := false) 18 rfl (congrArg Value.bool h11) rfl ?_
      refine s_off (b' := false) 18 rfl (congrArg Value.bool h11) rfl ?_
      refine s_off (b' := false) 18 rfl (congrArg Value.bool h11) rfl ?_
      refine s_off (b' := false) 18 rfl (congrArg Value.bool h11) rfl ?_
      refine s_op (o_pick_f (u := (.bool false)) ((rfl : _ = _).trans (congrArg Value.bool h11)) rfl ?_)
      refine s_nil ?_
      refine t_norm (hK10 _ _ ?_)
      refine c_false rfl rfl ?_
      refine wp_skip ?_
      refine t_norm (hK9 _ _ ?_)
      refine wp_seq_k fun K21 hK21 => ?_
      refine c_region ?_
      refine s_op (o_move (v := (.pointer (some ⟨qb, 0, none⟩))) rfl ?_)
      refine s_op (o_nilCheck rfl ?_)
      refine s_op (o_fieldAddr (k := 2) (fun _ => by kernel_rfl) rfl ?_)
      refine s_op (o_load1 (v := (.int .i64 q.left)) Try.underlying3 rfl rfl hH8 (seg_sub 0 rfl) (CellsAt.one rfl) ?_)
      refine s_op (o_sub (a := q.left) (b := 1) rfl rfl (w64 (by omega) (by omega)) ?_)
      refine s_op (o_nilCheck rfl ?_)
      refine s_op (o_fieldAddr (k := 2) (fun _ => by kernel_rfl) rfl ?_)
      refine s_eff (o_store1 (c' := #[(.bool q.off), (.bool q.armed), (.int .i64 (q.left - 1)), (.int .i64 (q.uses + 1))]) ti3 rfl rfl rfl (by simp) rfl (hH8.front 0 rfl) fun w22 hH23 => ?_)
      refine s_nil ?_
      refine t_norm (hK21 _ _ ?_)
      refine wp_seq_k fun K24 hK24 => ?_
      refine c_region ?_
      refine s_op (o_assign (v := (.bool true)) rfl ?_)
      refine s_nil ?_
      refine t_norm (hK24 _ _ ?_)
      refine wp_ret ?_
      refine c_ret1 Try.results104  (v := (.bool true)) rfl ?_
      have e_ : useM q = ⟨q.off, q.armed, q.left - 1, q.uses + 1⟩ := by simp [useM, h4, h11]
      exact ⟨by simp [useMB, h4, h11], by rw [e_]; exact hH23⟩
set_option maxHeartbeats 4000000 in
theorem begin_c {E w : World} {R : List Hp} (hH : Has E w [R]) {n : Nat} (hn : n ≤ 4096) :
    Calls Try.prog 54 #[(.int .i64 (n : Int))] w fun e w' => ∃ qm v1 h1 v2 h2, e = .returned (.pointer (some ⟨qm, 0, none⟩)) ∧ Own 9 1 v1 (List.replicate n blankS).length ((List.replicate n blankS).map sV) h1 ∧ Own 9 1 v2 (List.replicate n blankS).length ((List.replicate n blankS).map sV) h2 ∧ Has E w' [h1, h2, [Hp.one qm (.cells #[v1, v2, (.slice none 0 0)] 189 (0, 0))], R] := by
  refine c_enter (args := [(.int .i64 (n : Int))]) Try.func54 rfl Try.ntmps54 (by simp) ?_
  refine wp_seq_k fun K1 hK1 => ?_
  refine c_region ?_
  refine s_op (o_assign (v := (.pointer none)) rfl ?_)
  refine s_nil ?_
  refine t_norm (hK1 _ _ ?_)
  refine wp_seq_k fun K2 hK2 => ?_
  refine c_region ?_
  refine s_op (o_sight (v := (.agg #[(.slice none 0 0), (.slice none 0 0), (.slice none 0 0)])) (fun _ => by kernel_rfl) ?_)
  refine s_op (o_box (cs := #[(.slice none 0 0), (.slice none 0 0), (.slice none 0 0)]) rfl rfl hH fun b3 w4 hH5 => ?_)
  refine s_op (o_assign (v := (.pointer (some ⟨b3, 0, none⟩))) rfl ?_)
  refine s_nil ?_
  refine t_norm (hK2 _ _ ?_)
  refine wp_seq_k fun K6 hK6 => ?_
  refine wp_seq_k fun K7 hK7 => ?_
  refine c_region ?_
  refine s_op (o_assign (v := (.int .i64 0)) rfl ?_)
  refine s_nil ?_
  refine t_norm (hK7 _ _ ?_)
  refine wp_block ?_
  let I9 : Nat → (Nat → Value) → World → Prop := fun n__ r__ w__ => ∃ (k : Nat) (v1 : Value) (h1 : List Hp) (v2 : Value) (h2 : List Hp), n__ = n - k ∧ Has E w__ [h1, h2, [Hp.one b3 (.cells #[v1, v2, (.slice none 0 0)] 189 (0, 0))], R] ∧ (k ≤ n) ∧ (Own 9 1 v1 (List.replicate k blankS).length ((List.replicate k blankS).map sV) h1) ∧ (Own 9 1 v2 (List.replicate k blankS).length ((List.replicate k blankS).map sV) h2) ∧ r__ 0 = (.int .i64 (n : Int)) ∧ r__ 2 = (.pointer none) ∧ r__ 3 = (.pointer (some ⟨b3, 0, none⟩)) ∧ r__ 4 = (.int .i64 (k : Int))
  have hH10 : Has E w4 [[], [], [Hp.one b3 (.cells #[(.slice none 0 0), (.slice none 0 0), (.slice none 0 0)] 189 (0, 0))], R] := (Has.nil (Has.nil ((hH5.front 1 rfl).front 1 rfl))).first 4 rfl
  refine c_loop I9 _ ⟨0, (.slice none 0 0), [], (.slice none 0 0), [], rfl, hH10, Nat.zero_le _, Own.nil 9 1, Own.nil 9 1, rfl, rfl, rfl, rfl⟩ ?_
  rintro n_ r13 w11 ⟨k, v1, h1, v2, h2, rfl, hH12, hk, ho1, ho2, e8_0, e8_2, e8_3, e8_4⟩
  refine wp_seq_k fun K14 hK14 => ?_
  refine wp_seq_k fun K15 hK15 => ?_
  refine c_region ?_
  refine s_op (o_move (v := (.int .i64 (k : Int))) e8_4 ?_)
  refine s_op (o_move (v := (.int .i64 (n : Int))) e8_0 ?_)
  refine s_op (o_lss (a := (k : Int)) (b := (n : Int)) rfl rfl ?_)
  refine s_nil ?_
  refine t_norm (hK15 _ _ ?_)
  refine c_cond rfl (fun h16 => ?_) (fun h16 => ?_)
  · -- (k : Int) < (n : Int)
    refine wp_skip ?_
    refine t_norm (hK14 _ _ ?_)
    refine wp_seq_k fun K17 hK17 => ?_
    refine wp_block ?_
    refine wp_seq_k fun K18 hK18 => ?_
    have hH32 : Has E w11 [h2, R, h1, [Hp.one b3 (.cells #[v1, v2, (.slice none 0 0)] 189 (0, 0))]] := ((((hH12.front 2 rfl).front 1 rfl).front 3 rfl).front 3 rfl).first 4 rfl
    refine c_flow2 [h2, R] (fun i_ => match i_ with | 7 => h1 | 10 => [Hp.one b3 (.cells #[v1, v2, (.slice none 0 0)] 189 (0, 0))] | _ => []) (fun i_ v_ h_ m_ => match i_ with | 0 => v_ = (.pointer (some ⟨b3, 0, none⟩)) ∧ h_ = [] | 1 => v_ = (.pointer (some ⟨b3, 0, none⟩)) ∧ h_ = [] | 2 => v_ = (.pointer (some ⟨b3, 0, none⟩)) ∧ h_ = [] | 3 => v_ = (.pointer (some ⟨b3, 0, none⟩)) ∧ h_ = [] | 4 => v_ = v1 ∧ h_ = [] | 5 => v_ = (S blankS) ∧ h_ = [] | 6 => ∃ (b22 : Nat), v_ = (.slice (some ⟨b22, 0, none⟩) 1 1) ∧ h_ = [Hp.one b22 (.cells #[(S blankS)] 9 (0, 0))] | 7 => ∃ (v25 : Value) (s26 : List Hp), v_ = v25 ∧ h_ = s26 ∧ (Own 9 1 v25 ((List.replicate k blankS) ++ [blankS]).length (((List.replicate k blankS) ++ [blankS]).map sV) s26) | 8 => v_ = (.pointer (some ⟨b3, 0, none⟩)) ∧ h_ = [] | 9 => v_ = (.pointer (some ⟨b3, 0, none⟩)) ∧ h_ = [] | 10 => ∃ (v25 : Value), m_ 7 = v25 ∧ v_ = undef ∧ h_ = [Hp.one b3 (.cells #[v25, v2, (.slice none 0 0)] 189 (0, 0))] | _ => True) mixed (by kernel_rfl) (flow_has (cs := [h1, [Hp.one b3 (.cells #[v1, v2, (.slice none 0 0)] 189 (0, 0))]]) hH32 rfl) ?_ ?_
    · intro i_ o_ ho_ r' w' G hs_ ht
      match i_, ho_ with
      | 0, ho_ =>
        obtain rfl := Option.some.inj ho_
        have e3 : r' 3 = (.pointer (some ⟨b3, 0, none⟩)) := (ht.was 3 (by kernel_rfl)).trans e8_3
        have hG := ht.has.drop
        refine o_move (v := (.pointer (some ⟨b3, 0, none⟩))) e3 ?_
        exact ⟨_, ⟨rfl, rfl⟩, hG⟩
      | 1, ho_ =>
        obtain rfl := Option.some.inj ho_
        have e3 : r' 3 = (.pointer (some ⟨b3, 0, none⟩)) := (ht.was 3 (by kernel_rfl)).trans e8_3
        have hG := ht.has.drop
        refine o_move (v := (.pointer (some ⟨b3, 0, none⟩))) e3 ?_
        exact ⟨_, ⟨rfl, rfl⟩, hG⟩
      | 2, ho_ =>
        obtain rfl := Option.some.inj ho_
        obtain ⟨e13, eh1⟩ := (ht.done 1 _ rfl rfl).1
        have hG := ht.has.drop
        refine o_nilCheck e13 ?_
        exact ⟨_, ⟨rfl, rfl⟩, hG⟩
      | 3, ho_ =>
        obtain rfl := Option.some.inj ho_
        obtain ⟨e14, eh2⟩ := (ht.done 2 _ rfl rfl).1
        have hG := ht.has.drop
        refine o_fieldAddr (k := 0) (fun _ => by kernel_rfl) e14 ?_
        exact ⟨_, ⟨rfl, rfl⟩, hG⟩
      | 4, ho_ =>
        obtain rfl := Option.some.inj ho_
        obtain ⟨e15, eh3⟩ := (ht.done 3 _ rfl rfl).1
        have hG := ht.has.drop
        refine o_load1 (v := v1) Try.underlying53 rfl e15 hG (ht.todo 10 rfl) (CellsAt.one rfl) ?_
        exact ⟨_, ⟨rfl, rfl⟩, hG⟩
      | 5, ho_ =>
        obtain rfl := Option.some.inj ho_
        have hG := ht.has.drop
        refine o_callf (vs := #[]) ca28 rfl (args0) (lblank_c hG.all) ?_
        rintro _ w21 ⟨rfl, hX19⟩
        refine ⟨_, rfl, ?_⟩
        have hH20 := hX19.of_all
        exact ⟨_, ⟨rfl, rfl⟩, hH20⟩
      | 6, ho_ =>
        obtain rfl := Option.some.inj ho_
        obtain ⟨e17, eh5⟩ := (ht.done 5 _ rfl rfl).1
        have hG := ht.has.drop
        refine o_buildSlice (ps := #[(0, (S blankS))]) (cells := #[(S blankS)]) Try.underlying53 ti9 (by decide) (parts1 e17) (by kernel_rfl) hG fun b22 w23 hH24 => ?_
        exact ⟨_, ⟨b22, rfl, rfl⟩, hH24⟩
      | 7, ho_ =>
        obtain rfl := Option.some.inj ho_
        obtain ⟨e16, eh4⟩ := (ht.done 4 _ rfl rfl).1
        obtain ⟨b22, e18, eh6⟩ := (ht.done 6 _ rfl rfl).1
        have hG := ht.has
        refine o_append Try.underlying53 ti9 rfl (by decide) e16 ho1 e18 (sl_lit (f := sV) (l := [blankS]) rfl rfl (by simp)) (hG.front 0 rfl) (eh6 ▸ (ht.done 6 _ rfl rfl).2) (one_sV _) (by simp; omega) (by simp; omega) fun v25 s26 w28 ho27 hH29 => ?_
        have ho27 : Own 9 1 v25 ((List.replicate k blankS) ++ [blankS]).length (((List.replicate k blankS) ++ [blankS]).map sV) s26 := ho27.app
        exact ⟨_, ⟨v25, s26, rfl, rfl, ho27⟩, hH29⟩
      | 8, ho_ =>
        obtain rfl := Option.some.inj ho_
        obtain ⟨e12, eh0⟩ := (ht.done 0 _ rfl rfl).1
        obtain ⟨b22, e18, eh6⟩ := (ht.done 6 _ rfl rfl).1
        obtain ⟨v25, s26, e19, eh7, ho27⟩ := (ht.done 7 _ rfl rfl).1
        have hG := ht.has.drop
        refine o_nilCheck e12 ?_
        exact ⟨_, ⟨rfl, rfl⟩, hG⟩
      | 9, ho_ =>
        obtain rfl := Option.some.inj ho_
        obtain ⟨b22, e18, eh6⟩ := (ht.done 6 _ rfl rfl).1
        obtain ⟨v25, s26, e19, eh7, ho27⟩ := (ht.done 7 _ rfl rfl).1
        obtain ⟨e20, eh8⟩ := (ht.done 8 _ rfl rfl).1
        have hG := ht.has.drop
        refine o_fieldAddr (k := 0) (fun _ => by kernel_rfl) e20 ?_
        exact ⟨_, ⟨rfl, rfl⟩, hG⟩
      | 10, ho_ =>
        obtain rfl := Option.some.inj ho_
        obtain ⟨b22, e18, eh6⟩ := (ht.done 6 _ rfl rfl).1
        obtain ⟨v25, s26, e19, eh7, ho27⟩ := (ht.done 7 _ rfl rfl).1
        obtain ⟨e21, eh9⟩ := (ht.done 9 _ rfl rfl).1
        have hG := ht.has
        refine o_store1 (c' := #[v25, v2, (.slice none 0 0)]) ti53 e21 e19 ho27.one (by simp) rfl (hG.front 0 rfl) fun w30 hH31 => ?_
        exact ⟨_, ⟨v25, e19, rfl, rfl⟩, hH31⟩
      | i_ + 11, ho_ => exact absurd ho_ (by simp)
    · intro vs32 hs33 w34 hT35 hH36
      obtain ⟨e0_, eh0_⟩ := hT35 0 _ rfl
      obtain ⟨e1_, eh1_⟩ := hT35 1 _ rfl
      obtain ⟨e2_, eh2_⟩ := hT35 2 _ rfl
      obtain ⟨e3_, eh3_⟩ := hT35 3 _ rfl
      obtain ⟨e4_, eh4_⟩ := hT35 4 _ rfl
      obtain ⟨e5_, eh5_⟩ := hT35 5 _ rfl
      obtain ⟨b22, e6_, eh6_⟩ := hT35 6 _ rfl
      obtain ⟨v25, s26, e7_, eh7_, ho27⟩ := hT35 7 _ rfl
      obtain ⟨e8_, eh8_⟩ := hT35 8 _ rfl
      obtain ⟨e9_, eh9_⟩ := hT35 9 _ rfl
      obtain ⟨v25_10, q10_7, e10_, eh10_⟩ := hT35 10 _ rfl
      have z_ : v25 = v25_10 := Eq.trans (Eq.symm e7_) q10_7
      subst z_
      have hH37 : Has E w34 ([h2, R] ++ [[Hp.one b22 (.cells #[(S blankS)] 9 (0, 0))], s26, [Hp.one b3 (.cells #[v25, v2, (.slice none 0 0)] 189 (0, 0))]]) := flow_back (cs := [[Hp.one b22 (.cells #[(S blankS)] 9 (0, 0))], s26, [Hp.one b3 (.cells #[v25, v2, (.slice none 0 0)] 189 (0, 0))]]) hH36 (by show (hs33 0 ++ (hs33 1 ++ (hs33 2 ++ (hs33 3 ++ (hs33 4 ++ (hs33 5 ++ (hs33 6 ++ (hs33 7 ++ (hs33 8 ++ (hs33 9 ++ (hs33 10 ++ []))))))))))) = _; rw [eh0_, eh1_, eh2_, eh3_, eh4_, eh5_, eh6_, eh7_, eh8_, eh9_, eh10_]; rfl)
      generalize hr39 : puts vs32 _ 0 _ = r38
      have e40_0 : r38 0 = (.int .i64 (n : Int)) := by rw [← hr39]; exact e8_0
      have e40_2 : r38 2 = (.pointer none) := by rw [← hr39]; exact e8_2
      have e40_3 : r38 3 = (.pointer (some ⟨b3, 0, none⟩)) := by rw [← hr39]; exact e8_3
      have e40_4 : r38 4 = (.int .i64 (k : Int)) := by rw [← hr39]; exact e8_4
      have e40_9 : r38 9 = (.bool (decide ((k : Int) < (n : Int)))) := by rw [← hr39]; exact rfl
      refine t_norm (hK18 _ _ ?_)
      have hH54 : Has E w34 [R, [Hp.one b22 (.cells #[(S blankS)] 9 (0, 0))], s26, h2, [Hp.one b3 (.cells #[v25, v2, (.slice none 0 0)] 189 (0, 0))]] := (((((hH37.front 4 rfl).front 1 rfl).front 4 rfl).front 4 rfl).front 4 rfl).first 5 rfl
      refine c_flow2 [R, [Hp.one b22 (.cells #[(S blankS)] 9 (0, 0))], s26] (fun i_ => match i_ with | 7 => h2 | 10 => [Hp.one b3 (.cells #[v25, v2, (.slice none 0 0)] 189 (0, 0))] | _ => []) (fun i_ v_ h_ m_ => match i_ with | 0 => v_ = (.pointer (some ⟨b3, 0, none⟩)) ∧ h_ = [] | 1 => v_ = (.pointer (some ⟨b3, 0, none⟩)) ∧ h_ = [] | 2 => v_ = (.pointer (some ⟨b3, 0, none⟩)) ∧ h_ = [] | 3 => v_ = (.pointer (some ⟨b3, 1, none⟩)) ∧ h_ = [] | 4 => v_ = v2 ∧ h_ = [] | 5 => v_ = (S blankS) ∧ h_ = [] | 6 => ∃ (b44 : Nat), v_ = (.slice (some ⟨b44, 0, none⟩) 1 1) ∧ h_ = [Hp.one b44 (.cells #[(S blankS)] 9 (0, 0))] | 7 => ∃ (v47 : Value) (s48 : List Hp), v_ = v47 ∧ h_ = s48 ∧ (Own 9 1 v47 ((List.replicate k blankS) ++ [blankS]).length (((List.replicate k blankS) ++ [blankS]).map sV) s48) | 8 => v_ = (.pointer (some ⟨b3, 0, none⟩)) ∧ h_ = [] | 9 => v_ = (.pointer (some ⟨b3, 1, none⟩)) ∧ h_ = [] | 10 => ∃ (v47 : Value), m_ 7 = v47 ∧ v_ = undef ∧ h_ = [Hp.one b3 (.cells #[v25, v47, (.slice none 0 0)] 189 (0, 0))] | _ => True) mixed (by kernel_rfl) (flow_has (cs := [h2, [Hp.one b3 (.cells #[v25, v2, (.slice none 0 0)] 189 (0, 0))]]) hH54 rfl) ?_ ?_
      · intro i_ o_ ho_ r' w' G hs_ ht
        match i_, ho_ with
        | 0, ho_ =>
          obtain rfl := Option.some.inj ho_
          have e3 : r' 3 = (.pointer (some ⟨b3, 0, none⟩)) := (ht.was 3 (by kernel_rfl)).trans e40_3
          have hG := ht.has.drop
          refine o_move (v := (.pointer (some ⟨b3, 0, none⟩))) e3 ?_
          exact ⟨_, ⟨rfl, rfl⟩, hG⟩
        | 1, ho_ =>
          obtain rfl := Option.some.inj ho_
          have e3 : r' 3 = (.pointer (some ⟨b3, 0, none⟩)) := (ht.was 3 (by kernel_rfl)).trans e40_3
          have hG := ht.has.drop
          refine o_move (v := (.pointer (some ⟨b3, 0, none⟩))) e3 ?_
          exact ⟨_, ⟨rfl, rfl⟩, hG⟩
        | 2, ho_ =>
          obtain rfl := Option.some.inj ho_
          obtain ⟨e23, eh1⟩ := (ht.done 1 _ rfl rfl).1
          have hG := ht.has.drop
          refine o_nilCheck e23 ?_
          exact ⟨_, ⟨rfl, rfl⟩, hG⟩
        | 3, ho_ =>
          obtain rfl := Option.some.inj ho_
          obtain ⟨e24, eh2⟩ := (ht.done 2 _ rfl rfl).1
          have hG := ht.has.drop
          refine o_fieldAddr (k := 1) (fun _ => by kernel_rfl) e24 ?_
          exact ⟨_, ⟨rfl, rfl⟩, hG⟩
        | 4, ho_ =>
          obtain rfl := Option.some.inj ho_
          obtain ⟨e25, eh3⟩ := (ht.done 3 _ rfl rfl).1
          have hG := ht.has.drop
          refine o_load1 (v := v2) Try.underlying53 rfl e25 hG (ht.todo 10 rfl) (CellsAt.one rfl) ?_
          exact ⟨_, ⟨rfl, rfl⟩, hG⟩
        | 5, ho_ =>
          obtain rfl := Option.some.inj ho_
          have hG := ht.has.drop
          refine o_callf (vs := #[]) ca28 rfl (args0) (lblank_c hG.all) ?_
          rintro _ w43 ⟨rfl, hX41⟩
          refine ⟨_, rfl, ?_⟩
          have hH42 := hX41.of_all
          exact ⟨_, ⟨rfl, rfl⟩, hH42⟩
        | 6, ho_ =>
          obtain rfl := Option.some.inj ho_
          obtain ⟨e27, eh5⟩ := (ht.done 5 _ rfl rfl).1
          have hG := ht.has.drop
          refine o_buildSlice (ps := #[(0, (S blankS))]) (cells := #[(S blankS)]) Try.underlying53 ti9 (by decide) (parts1 e27) (by kernel_rfl) hG fun b44 w45 hH46 => ?_
          exact ⟨_, ⟨b44, rfl, rfl⟩, hH46⟩
        | 7, ho_ =>
          obtain rfl := Option.some.inj ho_
          obtain ⟨e26, eh4⟩ := (ht.done 4 _ rfl rfl).1
          obtain ⟨b44, e28, eh6⟩ := (ht.done 6 _ rfl rfl).1
          have hG := ht.has
          refine o_append Try.underlying53 ti9 rfl (by decide) e26 ho2 e28 (sl_lit (f := sV) (l := [blankS]) rfl rfl (by simp)) (hG.front 0 rfl) (eh6 ▸ (ht.done 6 _ rfl rfl).2) (one_sV _) (by simp; omega) (by simp; omega) fun v47 s48 w50 ho49 hH51 => ?_
          have ho49 : Own 9 1 v47 ((List.replicate k blankS) ++ [blankS]).length (((List.replicate k blankS) ++ [blankS]).map sV) s48 := ho49.app
          exact ⟨_, ⟨v47, s48, rfl, rfl, ho49⟩, hH51⟩
        | 8, ho_ =>
          obtain rfl := Option.some.inj ho_
          obtain ⟨e22, eh0⟩ := (ht.done 0 _ rfl rfl).1
          obtain ⟨b44, e28, eh6⟩ := (ht.done 6 _ rfl rfl).1
          obtain ⟨v47, s48, e29, eh7, ho49⟩ := (ht.done 7 _ rfl rfl).1
          have hG := ht.has.drop
          refine o_nilCheck e22 ?_
          exact ⟨_, ⟨rfl, rfl⟩, hG⟩
        | 9, ho_ =>
          obtain rfl := Option.some.inj ho_
          obtain ⟨b44, e28, eh6⟩ := (ht.done 6 _ rfl rfl).1
          obtain ⟨v47, s48, e29, eh7, ho49⟩ := (ht.done 7 _ rfl rfl).1
          obtain ⟨e30, eh8⟩ := (ht.done 8 _ rfl rfl).1
          have hG := ht.has.drop
          refine o_fieldAddr (k := 1) (fun _ => by kernel_rfl) e30 ?_
          exact ⟨_, ⟨rfl, rfl⟩, hG⟩
        | 10, ho_ =>
          obtain rfl := Option.some.inj ho_
          obtain ⟨b44, e28, eh6⟩ := (ht.done 6 _ rfl rfl).1
          obtain ⟨v47, s48, e29, eh7, ho49⟩ := (ht.done 7 _ rfl rfl).1
          obtain ⟨e31, eh9⟩ := (ht.done 9 _ rfl rfl).1
          have hG := ht.has
          refine o_store1 (c' := #[v25, v47, (.slice none 0 0)]) ti53 e31 e29 ho49.one (by simp) rfl (hG.front 0 rfl) fun w52 hH53 => ?_
          exact ⟨_, ⟨v47, e29, rfl, rfl⟩, hH53⟩
        | i_ + 11, ho_ => exact absurd ho_ (by simp)
      · intro vs54 hs55 w56 hT57 hH58
        obtain ⟨e0_, eh0_⟩ := hT57 0 _ rfl
        obtain ⟨e1_, eh1_⟩ := hT57 1 _ rfl
        obtain ⟨e2_, eh2_⟩ := hT57 2 _ rfl
        obtain ⟨e3_, eh3_⟩ := hT57 3 _ rfl
        obtain ⟨e4_, eh4_⟩ := hT57 4 _ rfl
        obtain ⟨e5_, eh5_⟩ := hT57 5 _ rfl
        obtain ⟨b44, e6_, eh6_⟩ := hT57 6 _ rfl
        obtain ⟨v47, s48, e7_, eh7_, ho49⟩ := hT57 7 _ rfl
        obtain ⟨e8_, eh8_⟩ := hT57 8 _ rfl
        obtain ⟨e9_, eh9_⟩ := hT57 9 _ rfl
        obtain ⟨v47_10, q10_7, e10_, eh10_⟩ := hT57 10 _ rfl
        have z_ : v47 = v47_10 := Eq.trans (Eq.symm e7_) q10_7
        subst z_
        have hH59 : Has E w56 ([R, [Hp.one b22 (.cells #[(S blankS)] 9 (0, 0))], s26] ++ [[Hp.one b44 (.cells #[(S blankS)] 9 (0, 0))], s48, [Hp.one b3 (.cells #[v25, v47, (.slice none 0 0)] 189 (0, 0))]]) := flow_back (cs := [[Hp.one b44 (.cells #[(S blankS)] 9 (0, 0))], s48, [Hp.one b3 (.cells #[v25, v47, (.slice none 0 0)] 189 (0, 0))]]) hH58 (by show (hs55 0 ++ (hs55 1 ++ (hs55 2 ++ (hs55 3 ++ (hs55 4 ++ (hs55 5 ++ (hs55 6 ++ (hs55 7 ++ (hs55 8 ++ (hs55 9 ++ (hs55 10 ++ []))))))))))) = _; rw [eh0_, eh1_, eh2_, eh3_, eh4_, eh5_, eh6_, eh7_, eh8_, eh9_, eh10_]; rfl)
        generalize hr61 : puts vs54 _ 0 _ = r60
        have e62_0 : r60 0 = (.int .i64 (n : Int)) := by rw [← hr61]; exact e40_0
        have e62_2 : r60 2 = (.pointer none) := by rw [← hr61]; exact e40_2
        have e62_3 : r60 3 = (.pointer (some ⟨b3, 0, none⟩)) := by rw [← hr61]; exact e40_3
        have e62_4 : r60 4 = (.int .i64 (k : Int)) := by rw [← hr61]; exact e40_4
        have e62_9 : r60 9 = (.bool (decide ((k : Int) < (n : Int)))) := by rw [← hr61]; exact e40_9
        refine b_norm ?_
        refine t_norm (hK17 _ _ ?_)
        refine c_region ?_
        refine s_op (o_move (v := (.int .i64 (k : Int))) e62_4 ?_)
        refine s_op (o_add (a := (k : Int)) (b := 1) rfl rfl (w64 (by omega) (by omega)) ?_)
        refine s_op (o_assign (v := (.int .i64 ((k : Int) + 1))) rfl ?_)
        refine s_nil ?_
        have hH63 : Has E w56 [s26, s48, [Hp.one b3 (.cells #[v25, v47, (.slice none 0 0)] 189 (0, 0))], R] := (((hH59.front 5 rfl).front 5 rfl).front 4 rfl).first 4 rfl
        refine t_norm ⟨n - (k + 1), _, rfl, ?_, ?_⟩
        · omega
        · exact ⟨(k + 1), v25, s26, v47, s48, rfl, hH63, (by omega), (by rw [List.replicate_succ']; exact ho27), (by rw [List.replicate_succ']; exact ho49), e62_0, e62_2, e62_3, rfl⟩
  · -- not: (k : Int) < (n : Int)
    refine wp_exit ?_
    refine t_exit (t_exit (x_in (?_)))
    refine t_norm (hK6 _ _ ?_)
    refine wp_seq_k fun K64 hK64 => ?_
    refine c_region ?_
    refine s_op (o_move (v := (.pointer (some ⟨b3, 0, none⟩))) e8_3 ?_)
    refine s_op (o_assign (v := (.pointer (some ⟨b3, 0, none⟩))) rfl ?_)
    refine s_nil ?_
    refine t_norm (hK64 _ _ ?_)
    refine wp_ret ?_
    refine c_ret1 Try.results54  (v := (.pointer (some ⟨b3, 0, none⟩))) rfl ?_
    have e_ : k = n := by omega
    subst e_
    exact ⟨_, _, _, _, _, rfl, ho1, ho2, hH12⟩
end Go.Q
