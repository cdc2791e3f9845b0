/-
  Parts of a walk: what functions of the program compute, each told by a theorem.
-/
import Derived.Test.YtcffibbdbalmjaaQEBase
import Derived.Test.YtcffibbdbalmjaaQBld
import Derived.Test.YtcffibbdbalmjaaQIn
import Derived.Test.YtcffibbdbalmjaaQF4
set_option linter.unusedVariables false
set_option linter.unusedSimpArgs false
namespace Go.Q
open Go.Proofs
set_option linter.unusedVariables false
set_option maxRecDepth 100000
attribute [local irreducible] wpList OK Code.wp
set_option maxHeartbeats 4000000 in
theorem cc_f {E w : World} {R : List Hp} {bb : Nat} {v : Value} (hH : Has E w [[Hp.one bb (.cells #[(.pointer none), v] 149 (0, 0))], R]) :
    Calls Try.prog 121 #[(.pointer (some ⟨bb, 0, none⟩))] w fun e w' => e = .returned (.tuple #[]) ∧ Has E w' [[Hp.one bb (.cells #[(.pointer (some ⟨bb, 0, none⟩)), v] 149 (0, 0))], R] := by
  refine c_enter (args := [(.pointer (some ⟨bb, 0, none⟩))]) Try.func121 rfl Try.ntmps121 (by simp) ?_
  refine wp_seq_k fun K1 hK1 => ?_
  refine c_region ?_
  refine s_op (o_move (v := (.pointer (some ⟨bb, 0, none⟩))) rfl ?_)
  refine s_op (o_nilCheck rfl ?_)
  refine s_op (o_fieldAddr (k := 0) (fun _ => by kernel_rfl) rfl ?_)
  refine s_op (o_load1 (v := (.pointer none)) Try.underlying146 rfl rfl hH (seg_sub 0 rfl) (CellsAt.one rfl) ?_)
  refine s_op (o_pnil (p := none) Try.underlying146 rfl rfl ?_)
  refine s_nil ?_
  refine t_norm (hK1 _ _ ?_)
  refine c_true rfl rfl ?_
  refine c_region ?_
  refine s_op (o_move (v := (.pointer (some ⟨bb, 0, none⟩))) rfl ?_)
  refine s_op (o_move (v := (.pointer (some ⟨bb, 0, none⟩))) rfl ?_)
  refine s_op (o_toUnsafe Try.underlying146 Try.underlying243 ti149 (by decide) rfl hH (seg_sub 0 rfl) (Nat.zero_lt_succ 1) ?_)
  refine s_op (o_extern (v' := (.pointer (some ⟨bb, 0, none⟩))) rfl rfl (by rw [run_callFunc_extern Try.func160 (by kernel_rfl) (by kernel_rfl) (by kernel_rfl) (e := Extern.AbiNoEscape.same) (by kernel_rfl), Lib.run_noEscape]; rfl) ?_)
  refine s_op (o_fromUnsafe Try.underlying243 Try.underlying146 ti149 rfl hH (seg_sub 0 rfl) (by kernel_rfl) ?_)
  refine s_op (o_nilCheck rfl ?_)
  refine s_op (o_fieldAddr (k := 0) (fun _ => by kernel_rfl) rfl ?_)
  refine s_eff (o_store1 (c' := #[(.pointer (some ⟨bb, 0, none⟩)), v]) ti146 rfl rfl rfl (by simp) rfl (hH.front 0 rfl) fun w2 hH3 => ?_)
  refine s_nil ?_
  refine c_end0 Try.results121  ?_
  exact ⟨rfl, hH3⟩
set_option maxHeartbeats 4000000 in
theorem cc_u {E w : World} {R : List Hp} {bb : Nat} {v : Value} (hH : Has E w [[Hp.one bb (.cells #[(.pointer (some ⟨bb, 0, none⟩)), v] 149 (0, 0))], R]) :
    Calls Try.prog 121 #[(.pointer (some ⟨bb, 0, none⟩))] w fun e w' => e = .returned (.tuple #[]) ∧ Has E w' [[Hp.one bb (.cells #[(.pointer (some ⟨bb, 0, none⟩)), v] 149 (0, 0))], R] := by
  refine c_enter (args := [(.pointer (some ⟨bb, 0, none⟩))]) Try.func121 rfl Try.ntmps121 (by simp) ?_
  refine wp_seq_k fun K1 hK1 => ?_
  refine c_region ?_
  refine s_op (o_move (v := (.pointer (some ⟨bb, 0, none⟩))) rfl ?_)
  refine s_op (o_nilCheck rfl ?_)
  refine s_op (o_fieldAddr (k := 0) (fun _ => by kernel_rfl) rfl ?_)
  refine s_op (o_load1 (v := (.pointer (some ⟨bb, 0, none⟩))) Try.underlying146 rfl rfl hH (seg_sub 0 rfl) (CellsAt.one rfl) ?_)
  refine s_op (o_pnil (p := some _) Try.underlying146 rfl rfl ?_)
  refine s_nil ?_
  refine t_norm (hK1 _ _ ?_)
  refine c_false rfl rfl ?_
  refine wp_seq_k fun K2 hK2 => ?_
  refine c_region ?_
  refine s_op (o_move (v := (.pointer (some ⟨bb, 0, none⟩))) rfl ?_)
  refine s_op (o_nilCheck rfl ?_)
  refine s_op (o_fieldAddr (k := 0) (fun _ => by kernel_rfl) rfl ?_)
  refine s_op (o_load1 (v := (.pointer (some ⟨bb, 0, none⟩))) Try.underlying146 rfl rfl hH (seg_sub 0 rfl) (CellsAt.one rfl) ?_)
  refine s_op (o_move (v := (.pointer (some ⟨bb, 0, none⟩))) rfl ?_)
  refine s_op (o_pneqSame Try.underlying146 ti149 rfl rfl ?_)
  refine s_nil ?_
  refine t_norm (hK2 _ _ ?_)
  refine c_false rfl rfl ?_
  refine wp_skip ?_
  refine c_end0 Try.results121  ?_
  exact ⟨rfl, hH⟩
set_option maxHeartbeats 4000000 in
theorem ws_f {E w : World} {R hs : List Hp} {bb : Nat} {v : Value} {l : List UInt8} (hH : Has E w [hs, [Hp.one bb (.cells #[(.pointer none), v] 149 (0, 0))], R]) (ho : Own 5 1 v l.length (l.map bV) hs) (hnil : l = [] → v = .slice none 0 0) (s : List UInt8) (hb : l.length + s.length ≤ 140737488355328) :
    Calls Try.prog 81 #[(.pointer (some ⟨bb, 0, none⟩)), (S s)] w fun e w' => ∃ v' hs', e = .returned (.tuple #[.int .i64 (s.length : Int), .nilIface]) ∧ Own 5 1 v' (l ++ s).length ((l ++ s).map bV) hs' ∧ (l ++ s = [] → v' = .slice none 0 0) ∧ Has E w' [hs', [Hp.one bb (.cells #[(.pointer (some ⟨bb, 0, none⟩)), v'] 149 (0, 0))], R] := by
  refine c_enter (args := [(.pointer (some ⟨bb, 0, none⟩)), (S s)]) Try.func81 rfl Try.ntmps81 (by simp) ?_
  refine wp_seq_k fun K1 hK1 => ?_
  refine c_region ?_
  refine s_op (o_assign (v := (.int .i64 0)) rfl ?_)
  refine s_op (o_assign (v := Value.nilIface) rfl ?_)
  refine s_nil ?_
  refine t_norm (hK1 _ _ ?_)
  refine wp_seq_k fun K2 hK2 => ?_
  refine c_region ?_
  refine s_op (o_move (v := (.pointer (some ⟨bb, 0, none⟩))) rfl ?_)
  refine s_op (o_callf (vs := #[(.pointer (some ⟨bb, 0, none⟩))]) ca121 rfl (args1 rfl) (cc_f (hH.front 1 rfl).all1) ?_)
  rintro _ w5 ⟨rfl, hX3⟩
  refine ⟨_, rfl, ?_⟩
  have hH4 : Has E w5 [[Hp.one bb (.cells #[(.pointer (some ⟨bb, 0, none⟩)), v] 149 (0, 0))], hs, R] := hX3.of_all1
  refine s_nil ?_
  refine t_norm (hK2 _ _ ?_)
  refine wp_seq_k fun K6 hK6 => ?_
  refine c_region ?_
  refine s_op (o_move (v := (.pointer (some ⟨bb, 0, none⟩))) rfl ?_)
  refine s_op (o_move (v := (.pointer (some ⟨bb, 0, none⟩))) rfl ?_)
  refine s_op (o_nilCheck rfl ?_)
  refine s_op (o_fieldAddr (k := 1) (fun _ => by kernel_rfl) rfl ?_)
  refine s_op (o_load1 (v := v) Try.underlying147 rfl rfl hH4 (seg_sub 0 rfl) (CellsAt.one rfl) ?_)
  refine s_op (o_move (v := (S s)) rfl ?_)
  refine s_op (o_appstr Try.underlying147 Try.underlying9 ti5 rfl ho rfl (hH4.front 1 rfl) (by omega) fun v7 s8 w11 ho9 hn10 hH12 => ?_)
  have ho9 : Own 5 1 v7 (l ++ s).length ((l ++ s).map bV) s8 := by rw [List.length_append, List.map_append]; exact ho9
  refine s_op (o_nilCheck rfl ?_)
  refine s_op (o_fieldAddr (k := 1) (fun _ => by kernel_rfl) rfl ?_)
  refine s_eff (o_store1 (c' := #[(.pointer (some ⟨bb, 0, none⟩)), v7]) ti147 rfl rfl ho9.one (by simp) rfl (hH12.front 1 rfl) fun w13 hH14 => ?_)
  refine s_nil ?_
  refine t_norm (hK6 _ _ ?_)
  refine wp_seq_k fun K15 hK15 => ?_
  refine c_region ?_
  refine s_op (o_move (v := (S s)) rfl ?_)
  refine s_op (o_slen Try.underlying9 rfl ?_)
  refine s_op (o_assign (v := (.int .i64 (s.length : Int))) rfl ?_)
  refine s_op (o_assign (v := Value.nilIface) rfl ?_)
  refine s_nil ?_
  refine t_norm (hK15 _ _ ?_)
  refine wp_ret ?_
  refine c_ret2 Try.results81  (v := (.int .i64 (s.length : Int))) rfl (x := Value.nilIface) rfl ?_
  have hH16 : Has E w13 [s8, [Hp.one bb (.cells #[(.pointer (some ⟨bb, 0, none⟩)), v7] 149 (0, 0))], R] := (((hH14.front 2 rfl).front 1 rfl).front 2 rfl).first 3 rfl
  exact ⟨_, _, rfl, ho9, fun h => hn10 (hnil (List.append_eq_nil_iff.1 h).1) (List.append_eq_nil_iff.1 h).2, hH16⟩
set_option maxHeartbeats 4000000 in
theorem ws_u {E w : World} {R hs : List Hp} {bb : Nat} {v : Value} {l : List UInt8} (hH : Has E w [hs, [Hp.one bb (.cells #[(.pointer (some ⟨bb, 0, none⟩)), v] 149 (0, 0))], R]) (ho : Own 5 1 v l.length (l.map bV) hs) (hnil : l = [] → v = .slice none 0 0) (s : List UInt8) (hb : l.length + s.length ≤ 140737488355328) :
    Calls Try.prog 81 #[(.pointer (some ⟨bb, 0, none⟩)), (S s)] w fun e w' => ∃ v' hs', e = .returned (.tuple #[.int .i64 (s.length : Int), .nilIface]) ∧ Own 5 1 v' (l ++ s).length ((l ++ s).map bV) hs' ∧ (l ++ s = [] → v' = .slice none 0 0) ∧ Has E w' [hs', [Hp.one bb (.cells #[(.pointer (some ⟨bb, 0, none⟩)), v'] 149 (0, 0))], R] := by
  refine c_enter (args := [(.pointer (some ⟨bb, 0, none⟩)), (S s)]) Try.func81 rfl Try.ntmps81 (by simp) ?_
  refine wp_seq_k fun K1 hK1 => ?_
  refine c_region ?_
  refine s_op (o_assign (v := (.int .i64 0)) rfl ?_)
  refine s_op (o_assign (v := Value.nilIface) rfl ?_)
  refine s_nil ?_
  refine t_norm (hK1 _ _ ?_)
  refine wp_seq_k fun K2 hK2 => ?_
  refine c_region ?_
  refine s_op (o_move (v := (.pointer (some ⟨bb, 0, none⟩))) rfl ?_)
  refine s_op (o_callf (vs := #[(.pointer (some ⟨bb, 0, none⟩))]) ca121 rfl (args1 rfl) (cc_u (hH.front 1 rfl).all1) ?_)
  rintro _ w5 ⟨rfl, hX3⟩
  refine ⟨_, rfl, ?_⟩
  have hH4 : Has E w5 [[Hp.one bb (.cells #[(.pointer (some ⟨bb, 0, none⟩)), v] 149 (0, 0))], hs, R] := hX3.of_all1
  refine s_nil ?_
  refine t_norm (hK2 _ _ ?_)
  refine wp_seq_k fun K6 hK6 => ?_
  refine c_region ?_
  refine s_op (o_move (v := (.pointer (some ⟨bb, 0, none⟩))) rfl ?_)
  refine s_op (o_move (v := (.pointer (some ⟨bb, 0, none⟩))) rfl ?_)
  refine s_op (o_nilCheck rfl ?_)
  refine s_op (o_fieldAddr (k := 1) (fun _ => by kernel_rfl) rfl ?_)
  refine s_op (o_load1 (v := v) Try.underlying147 rfl rfl hH4 (seg_sub 0 rfl) (CellsAt.one rfl) ?_)
  refine s_op (o_move (v := (S s)) rfl ?_)
  refine s_op (o_appstr Try.underlying147 Try.underlying9 ti5 rfl ho rfl (hH4.front 1 rfl) (by omega) fun v7 s8 w11 ho9 hn10 hH12 => ?_)
  have ho9 : Own 5 1 v7 (l ++ s).length ((l ++ s).map bV) s8 := by rw [List.length_append, List.map_append]; exact ho9
  refine s_op (o_nilCheck rfl ?_)
  refine s_op (o_fieldAddr (k := 1) (fun _ => by kernel_rfl) rfl ?_)
  refine s_eff (o_store1 (c' := #[(.pointer (some ⟨bb, 0, none⟩)), v7]) ti147 rfl rfl ho9.one (by simp) rfl (hH12.front 1 rfl) fun w13 hH14 => ?_)
  refine s_nil ?_
  refine t_norm (hK6 _ _ ?_)
  refine wp_seq_k fun K15 hK15 => ?_
  refine c_region ?_
  refine s_op (o_move (v := (S s)) rfl ?_)
  refine s_op (o_slen Try.underlying9 rfl ?_)
  refine s_op (o_assign (v := (.int .i64 (s.length : Int))) rfl ?_)
  refine s_op (o_assign (v := Value.nilIface) rfl ?_)
  refine s_nil ?_
  refine t_norm (hK15 _ _ ?_)
  refine wp_ret ?_
  refine c_ret2 Try.results81  (v := (.int .i64 (s.length : Int))) rfl (x := Value.nilIface) rfl ?_
  have hH16 : Has E w13 [s8, [Hp.one bb (.cells #[(.pointer (some ⟨bb, 0, none⟩)), v7] 149 (0, 0))], R] := (((hH14.front 2 rfl).front 1 rfl).front 2 rfl).first 3 rfl
  exact ⟨_, _, rfl, ho9, fun h => hn10 (hnil (List.append_eq_nil_iff.1 h).1) (List.append_eq_nil_iff.1 h).2, hH16⟩
set_option maxHeartbeats 4000000 in
theorem bs_nil {E w : World} {R : List Hp} {bb : Nat} {a : Value} (hH : Has E w [[Hp.one bb (.cells #[a, (.slice none 0 0)] 149 (0, 0))], R]) :
    Calls Try.prog 82 #[(.pointer (some ⟨bb, 0, none⟩))] w fun e w' => e = .returned (S ([] : List UInt8)) ∧ Has E w' [R] := by
  refine c_enter (args := [(.pointer (some ⟨bb, 0, none⟩))]) Try.func82 rfl Try.ntmps82 (by simp) ?_
  refine wp_seq_k fun K1 hK1 => ?_
  refine c_region ?_
  refine s_op (o_assign (v := (S ([] : List UInt8))) rfl ?_)
  refine s_nil ?_
  refine t_norm (hK1 _ _ ?_)
  refine wp_seq_k fun K2 hK2 => ?_
  refine c_flow [[Hp.one bb (.cells #[a, (.slice none 0 0)] 149 (0, 0))], R] (fun i_ => match i_ with | _ => []) (fun i_ v_ h_ => match i_ with | 0 => v_ = (.pointer (some ⟨bb, 0, none⟩)) ∧ h_ = [] | 1 => v_ = (.pointer (some ⟨bb, 0, none⟩)) ∧ h_ = [] | 2 => v_ = (.pointer (some ⟨bb, 1, none⟩)) ∧ h_ = [] | 3 => v_ = (.slice none 0 0) ∧ h_ = [] | 4 => v_ = (.pointer none) ∧ h_ = [] | 5 => v_ = (.pointer (some ⟨bb, 0, none⟩)) ∧ h_ = [] | 6 => v_ = (.pointer (some ⟨bb, 0, none⟩)) ∧ h_ = [] | 7 => v_ = (.pointer (some ⟨bb, 1, none⟩)) ∧ h_ = [] | 8 => v_ = (.slice none 0 0) ∧ h_ = [] | 9 => v_ = (.int .i64 ((0 : Nat) : Int)) ∧ h_ = [] | 10 => v_ = (S ([] : List UInt8)) ∧ h_ = [] | 11 => v_ = (S ([] : List UInt8)) ∧ h_ = [] | _ => True) mixed (by kernel_rfl) (flow_has (cs := []) hH rfl) ?_ ?_
  · intro i_ o_ ho_ r' w' G hs_ ht
    match i_, ho_ with
    | 0, ho_ =>
      obtain rfl := Option.some.inj ho_
      have e0 : r' 0 = (.pointer (some ⟨bb, 0, none⟩)) := ht.was 0 (by kernel_rfl)
      have hG := ht.has.drop
      refine o_move (v := (.pointer (some ⟨bb, 0, none⟩))) e0 ?_
      exact ⟨_, ⟨rfl, rfl⟩, hG⟩
    | 1, ho_ =>
      obtain rfl := Option.some.inj ho_
      obtain ⟨e3, eh0⟩ := (ht.done 0 _ rfl rfl).1
      have hG := ht.has.drop
      refine o_nilCheck e3 ?_
      exact ⟨_, ⟨rfl, rfl⟩, hG⟩
    | 2, ho_ =>
      obtain rfl := Option.some.inj ho_
      obtain ⟨e4, eh1⟩ := (ht.done 1 _ rfl rfl).1
      have hG := ht.has.drop
      refine o_fieldAddr (k := 1) (fun _ => by kernel_rfl) e4 ?_
      exact ⟨_, ⟨rfl, rfl⟩, hG⟩
    | 3, ho_ =>
      obtain rfl := Option.some.inj ho_
      obtain ⟨e5, eh2⟩ := (ht.done 2 _ rfl rfl).1
      have hG := ht.has.drop
      refine o_load1 (v := (.slice none 0 0)) Try.underlying147 rfl e5 hG (ht.fr [Hp.one bb (.cells #[a, (.slice none 0 0)] 149 (0, 0))] (by simp)) (CellsAt.one rfl) ?_
      exact ⟨_, ⟨rfl, rfl⟩, hG⟩
    | 4, ho_ =>
      obtain rfl := Option.some.inj ho_
      obtain ⟨e6, eh3⟩ := (ht.done 3 _ rfl rfl).1
      have hG := ht.has.drop
      refine o_uSDnil e6 ?_
      exact ⟨_, ⟨rfl, rfl⟩, hG⟩
    | 5, ho_ =>
      obtain rfl := Option.some.inj ho_
      have e0 : r' 0 = (.pointer (some ⟨bb, 0, none⟩)) := ht.was 0 (by kernel_rfl)
      have hG := ht.has.drop
      refine o_move (v := (.pointer (some ⟨bb, 0, none⟩))) e0 ?_
      exact ⟨_, ⟨rfl, rfl⟩, hG⟩
    | 6, ho_ =>
      obtain rfl := Option.some.inj ho_
      obtain ⟨e8, eh5⟩ := (ht.done 5 _ rfl rfl).1
      have hG := ht.has.drop
      refine o_nilCheck e8 ?_
      exact ⟨_, ⟨rfl, rfl⟩, hG⟩
    | 7, ho_ =>
      obtain rfl := Option.some.inj ho_
      obtain ⟨e9, eh6⟩ := (ht.done 6 _ rfl rfl).1
      have hG := ht.has.drop
      refine o_fieldAddr (k := 1) (fun _ => by kernel_rfl) e9 ?_
      exact ⟨_, ⟨rfl, rfl⟩, hG⟩
    | 8, ho_ =>
      obtain rfl := Option.some.inj ho_
      obtain ⟨e10, eh7⟩ := (ht.done 7 _ rfl rfl).1
      have hG := ht.has.drop
      refine o_load1 (v := (.slice none 0 0)) Try.underlying147 rfl e10 hG (ht.fr [Hp.one bb (.cells #[a, (.slice none 0 0)] 149 (0, 0))] (by simp)) (CellsAt.one rfl) ?_
      exact ⟨_, ⟨rfl, rfl⟩, hG⟩
    | 9, ho_ =>
      obtain rfl := Option.some.inj ho_
      obtain ⟨e11, eh8⟩ := (ht.done 8 _ rfl rfl).1
      have hG := ht.has.drop
      refine o_lenS Try.underlying147 e11 (sl_nil (L := []) 1) ?_
      exact ⟨_, ⟨rfl, rfl⟩, hG⟩
    | 10, ho_ =>
      obtain rfl := Option.some.inj ho_
      obtain ⟨e7, eh4⟩ := (ht.done 4 _ rfl rfl).1
      obtain ⟨e12, eh9⟩ := (ht.done 9 _ rfl rfl).1
      have hG := ht.has.drop
      refine o_uStrNil e7 e12 ?_
      exact ⟨_, ⟨rfl, rfl⟩, hG⟩
    | 11, ho_ =>
      obtain rfl := Option.some.inj ho_
      obtain ⟨e13, eh10⟩ := (ht.done 10 _ rfl rfl).1
      have hG := ht.has.drop
      refine o_assign (v := (S ([] : List UInt8))) e13 ?_
      exact ⟨_, ⟨rfl, rfl⟩, hG⟩
    | i_ + 12, ho_ => exact absurd ho_ (by simp)
  · intro vs3 hs4 w5 hT6 hH7
    obtain ⟨e0_, eh0_⟩ := hT6 0 _ rfl
    obtain ⟨e1_, eh1_⟩ := hT6 1 _ rfl
    obtain ⟨e2_, eh2_⟩ := hT6 2 _ rfl
    obtain ⟨e3_, eh3_⟩ := hT6 3 _ rfl
    obtain ⟨e4_, eh4_⟩ := hT6 4 _ rfl
    obtain ⟨e5_, eh5_⟩ := hT6 5 _ rfl
    obtain ⟨e6_, eh6_⟩ := hT6 6 _ rfl
    obtain ⟨e7_, eh7_⟩ := hT6 7 _ rfl
    obtain ⟨e8_, eh8_⟩ := hT6 8 _ rfl
    obtain ⟨e9_, eh9_⟩ := hT6 9 _ rfl
    obtain ⟨e10_, eh10_⟩ := hT6 10 _ rfl
    obtain ⟨e11_, eh11_⟩ := hT6 11 _ rfl
    have hH8 : Has E w5 ([[Hp.one bb (.cells #[a, (.slice none 0 0)] 149 (0, 0))], R] ++ []) := flow_back (cs := []) hH7 (by show (hs4 0 ++ (hs4 1 ++ (hs4 2 ++ (hs4 3 ++ (hs4 4 ++ (hs4 5 ++ (hs4 6 ++ (hs4 7 ++ (hs4 8 ++ (hs4 9 ++ (hs4 10 ++ (hs4 11 ++ [])))))))))))) = _; rw [eh0_, eh1_, eh2_, eh3_, eh4_, eh5_, eh6_, eh7_, eh8_, eh9_, eh10_, eh11_]; rfl)
    generalize hr10 : puts vs3 _ 0 _ = r9
    have e11_0 : r9 0 = (.pointer (some ⟨bb, 0, none⟩)) := by rw [← hr10]; exact rfl
    have e11_2 : r9 2 = (S ([] : List UInt8)) := by rw [← hr10]; exact e11_
    refine t_norm (hK2 _ _ ?_)
    refine wp_ret ?_
    refine c_ret1 Try.results82  (v := (S ([] : List UInt8))) e11_2 ?_
    have hH12 : Has E w5 [R] := (hH8.front 1 rfl).first 1 rfl
    exact ⟨rfl, hH12⟩
set_option maxHeartbeats 4000000 in
theorem bs_row {E w : World} {R : List Hp} {bb : Nat} {a : Value} {g cap : Nat} {hs : List Hp} {l : List UInt8} (hH : Has E w [hs, [Hp.one bb (.cells #[a, (.slice (some ⟨g, 0, none⟩) l.length cap)] 149 (0, 0))], R]) (ho : Own 5 1 (.slice (some ⟨g, 0, none⟩) l.length cap) l.length (l.map bV) hs) (hne : l ≠ []) (hcap : cap ≠ 0) :
    Calls Try.prog 82 #[(.pointer (some ⟨bb, 0, none⟩))] w fun e w' => e = .returned (S l) ∧ Has E w' [R] := by
  refine c_enter (args := [(.pointer (some ⟨bb, 0, none⟩))]) Try.func82 rfl Try.ntmps82 (by simp) ?_
  refine wp_seq_k fun K1 hK1 => ?_
  refine c_region ?_
  refine s_op (o_assign (v := (S ([] : List UInt8))) rfl ?_)
  refine s_nil ?_
  refine t_norm (hK1 _ _ ?_)
  refine wp_seq_k fun K2 hK2 => ?_
  have hH5 : Has E w [[Hp.one bb (.cells #[a, (.slice (some ⟨g, 0, none⟩) l.length cap)] 149 (0, 0))], R, hs] := ((hH.front 2 rfl).front 2 rfl).first 3 rfl
  refine c_flow [[Hp.one bb (.cells #[a, (.slice (some ⟨g, 0, none⟩) l.length cap)] 149 (0, 0))], R] (fun i_ => match i_ with | 10 => hs | _ => []) (fun i_ v_ h_ => match i_ with | 0 => v_ = (.pointer (some ⟨bb, 0, none⟩)) ∧ h_ = [] | 1 => v_ = (.pointer (some ⟨bb, 0, none⟩)) ∧ h_ = [] | 2 => v_ = (.pointer (some ⟨bb, 1, none⟩)) ∧ h_ = [] | 3 => v_ = (.slice (some ⟨g, 0, none⟩) l.length cap) ∧ h_ = [] | 4 => v_ = (.pointer (some ⟨g, 0, none⟩)) ∧ h_ = [] | 5 => v_ = (.pointer (some ⟨bb, 0, none⟩)) ∧ h_ = [] | 6 => v_ = (.pointer (some ⟨bb, 0, none⟩)) ∧ h_ = [] | 7 => v_ = (.pointer (some ⟨bb, 1, none⟩)) ∧ h_ = [] | 8 => v_ = (.slice (some ⟨g, 0, none⟩) l.length cap) ∧ h_ = [] | 9 => v_ = (.int .i64 ((l.length : Nat) : Int)) ∧ h_ = [] | 10 => v_ = (S l) ∧ h_ = [] | 11 => v_ = (S l) ∧ h_ = [] | _ => True) mixed (by kernel_rfl) (flow_has (cs := [hs]) hH5 rfl) ?_ ?_
  · intro i_ o_ ho_ r' w' G hs_ ht
    match i_, ho_ with
    | 0, ho_ =>
      obtain rfl := Option.some.inj ho_
      have e0 : r' 0 = (.pointer (some ⟨bb, 0, none⟩)) := ht.was 0 (by kernel_rfl)
      have hG := ht.has.drop
      refine o_move (v := (.pointer (some ⟨bb, 0, none⟩))) e0 ?_
      exact ⟨_, ⟨rfl, rfl⟩, hG⟩
    | 1, ho_ =>
      obtain rfl := Option.some.inj ho_
      obtain ⟨e3, eh0⟩ := (ht.done 0 _ rfl rfl).1
      have hG := ht.has.drop
      refine o_nilCheck e3 ?_
      exact ⟨_, ⟨rfl, rfl⟩, hG⟩
    | 2, ho_ =>
      obtain rfl := Option.some.inj ho_
      obtain ⟨e4, eh1⟩ := (ht.done 1 _ rfl rfl).1
      have hG := ht.has.drop
      refine o_fieldAddr (k := 1) (fun _ => by kernel_rfl) e4 ?_
      exact ⟨_, ⟨rfl, rfl⟩, hG⟩
    | 3, ho_ =>
      obtain rfl := Option.some.inj ho_
      obtain ⟨e5, eh2⟩ := (ht.done 2 _ rfl rfl).1
      have hG := ht.has.drop
      refine o_load1 (v := (.slice (some ⟨g, 0, none⟩) l.length cap)) Try.underlying147 rfl e5 hG (ht.fr [Hp.one bb (.cells #[a, (.slice (some ⟨g, 0, none⟩) l.length cap)] 149 (0, 0))] (by simp)) (CellsAt.one rfl) ?_
      exact ⟨_, ⟨rfl, rfl⟩, hG⟩
    | 4, ho_ =>
      obtain rfl := Option.some.inj ho_
      obtain ⟨e6, eh3⟩ := (ht.done 3 _ rfl rfl).1
      have hG := ht.has.drop
      refine o_uSD (a := ⟨g, 0, none⟩) e6 hcap ?_
      exact ⟨_, ⟨rfl, rfl⟩, hG⟩
    | 5, ho_ =>
      obtain rfl := Option.some.inj ho_
      have e0 : r' 0 = (.pointer (some ⟨bb, 0, none⟩)) := ht.was 0 (by kernel_rfl)
      have hG := ht.has.drop
      refine o_move (v := (.pointer (some ⟨bb, 0, none⟩))) e0 ?_
      exact ⟨_, ⟨rfl, rfl⟩, hG⟩
    | 6, ho_ =>
      obtain rfl := Option.some.inj ho_
      obtain ⟨e8, eh5⟩ := (ht.done 5 _ rfl rfl).1
      have hG := ht.has.drop
      refine o_nilCheck e8 ?_
      exact ⟨_, ⟨rfl, rfl⟩, hG⟩
    | 7, ho_ =>
      obtain rfl := Option.some.inj ho_
      obtain ⟨e9, eh6⟩ := (ht.done 6 _ rfl rfl).1
      have hG := ht.has.drop
      refine o_fieldAddr (k := 1) (fun _ => by kernel_rfl) e9 ?_
      exact ⟨_, ⟨rfl, rfl⟩, hG⟩
    | 8, ho_ =>
      obtain rfl := Option.some.inj ho_
      obtain ⟨e10, eh7⟩ := (ht.done 7 _ rfl rfl).1
      have hG := ht.has.drop
      refine o_load1 (v := (.slice (some ⟨g, 0, none⟩) l.length cap)) Try.underlying147 rfl e10 hG (ht.fr [Hp.one bb (.cells #[a, (.slice (some ⟨g, 0, none⟩) l.length cap)] 149 (0, 0))] (by simp)) (CellsAt.one rfl) ?_
      exact ⟨_, ⟨rfl, rfl⟩, hG⟩
    | 9, ho_ =>
      obtain rfl := Option.some.inj ho_
      obtain ⟨e11, eh8⟩ := (ht.done 8 _ rfl rfl).1
      have hG := ht.has.drop
      refine o_lenS Try.underlying147 e11 ho.sl ?_
      exact ⟨_, ⟨rfl, rfl⟩, hG⟩
    | 10, ho_ =>
      obtain rfl := Option.some.inj ho_
      obtain ⟨e7, eh4⟩ := (ht.done 4 _ rfl rfl).1
      obtain ⟨e12, eh9⟩ := (ht.done 9 _ rfl rfl).1
      have hG := ht.has
      refine o_uStr Try.underlying208 (by kernel_rfl) e7 e12 ho hne hG fun w3 hH4 => ?_
      exact ⟨_, ⟨rfl, rfl⟩, hH4⟩
    | 11, ho_ =>
      obtain rfl := Option.some.inj ho_
      obtain ⟨e13, eh10⟩ := (ht.done 10 _ rfl rfl).1
      have hG := ht.has.drop
      refine o_assign (v := (S l)) e13 ?_
      exact ⟨_, ⟨rfl, rfl⟩, hG⟩
    | i_ + 12, ho_ => exact absurd ho_ (by simp)
  · intro vs5 hs6 w7 hT8 hH9
    obtain ⟨e0_, eh0_⟩ := hT8 0 _ rfl
    obtain ⟨e1_, eh1_⟩ := hT8 1 _ rfl
    obtain ⟨e2_, eh2_⟩ := hT8 2 _ rfl
    obtain ⟨e3_, eh3_⟩ := hT8 3 _ rfl
    obtain ⟨e4_, eh4_⟩ := hT8 4 _ rfl
    obtain ⟨e5_, eh5_⟩ := hT8 5 _ rfl
    obtain ⟨e6_, eh6_⟩ := hT8 6 _ rfl
    obtain ⟨e7_, eh7_⟩ := hT8 7 _ rfl
    obtain ⟨e8_, eh8_⟩ := hT8 8 _ rfl
    obtain ⟨e9_, eh9_⟩ := hT8 9 _ rfl
    obtain ⟨e10_, eh10_⟩ := hT8 10 _ rfl
    obtain ⟨e11_, eh11_⟩ := hT8 11 _ rfl
    have hH10 : Has E w7 ([[Hp.one bb (.cells #[a, (.slice (some ⟨g, 0, none⟩) l.length cap)] 149 (0, 0))], R] ++ []) := flow_back (cs := []) hH9 (by show (hs6 0 ++ (hs6 1 ++ (hs6 2 ++ (hs6 3 ++ (hs6 4 ++ (hs6 5 ++ (hs6 6 ++ (hs6 7 ++ (hs6 8 ++ (hs6 9 ++ (hs6 10 ++ (hs6 11 ++ [])))))))))))) = _; rw [eh0_, eh1_, eh2_, eh3_, eh4_, eh5_, eh6_, eh7_, eh8_, eh9_, eh10_, eh11_]; rfl)
    generalize hr12 : puts vs5 _ 0 _ = r11
    have e13_0 : r11 0 = (.pointer (some ⟨bb, 0, none⟩)) := by rw [← hr12]; exact rfl
    have e13_2 : r11 2 = (S l) := by rw [← hr12]; exact e11_
    refine t_norm (hK2 _ _ ?_)
    refine wp_ret ?_
    refine c_ret1 Try.results82  (v := (S l)) e13_2 ?_
    have hH14 : Has E w7 [R] := (hH10.front 1 rfl).first 1 rfl
    exact ⟨rfl, hH14⟩
/-- A builder that holds these bytes. -/
def Bld (b : Nat) (l : List UInt8) (sg : List Hp) : Prop := ∃ a v hs, sg = hs ++ [Hp.one b (.cells #[a, v] 149 (0, 0))] ∧ (a = .pointer none ∨ a = .pointer (some ⟨b, 0, none⟩)) ∧ Own 5 1 v l.length (l.map bV) hs ∧ (l = [] → v = .slice none 0 0)
theorem Bld.new (b : Nat) : Bld b [] [Hp.one b (.cells #[.pointer none, .slice none 0 0] 149 (0, 0))] := ⟨_, _, [], rfl, .inl rfl, Own.nil 5 1, fun _ => rfl⟩
theorem bws {E w : World} {R sg : List Hp} {b : Nat} {l : List UInt8} (hH : Has E w [sg, R]) (hB : Bld b l sg) (s : List UInt8) (hb : l.length + s.length ≤ 140737488355328) :
    Calls Try.prog 81 #[.pointer (some ⟨b, 0, none⟩), S s] w fun e w' => ∃ sg', e = .returned (.tuple #[.int .i64 (s.length : Int), .nilIface]) ∧ Bld b (l ++ s) sg' ∧ Has E w' [sg', R] := by
  obtain ⟨a, v, hs, rfl, rfl | rfl, ho, hn⟩ := hB
  · exact (ws_f hH.open2 ho hn s hb).mono fun e w' ⟨v', hs', he, ho', hn', hH'⟩ => ⟨_, he, ⟨_, _, _, rfl, .inr rfl, ho', hn'⟩, hH'.close2⟩
  · exact (ws_u hH.open2 ho hn s hb).mono fun e w' ⟨v', hs', he, ho', hn', hH'⟩ => ⟨_, he, ⟨_, _, _, rfl, .inr rfl, ho', hn'⟩, hH'.close2⟩
theorem bstr {E w : World} {R sg : List Hp} {b : Nat} {l : List UInt8} (hH : Has E w [sg, R]) (hB : Bld b l sg) :
    Calls Try.prog 82 #[.pointer (some ⟨b, 0, none⟩)] w fun e w' => e = .returned (S l) ∧ Has E w' [R] := by
  obtain ⟨a, v, hs, rfl, _, ho, hn⟩ := hB
  by_cases hl : l = []
  · obtain rfl := hn hl
    subst hl
    exact bs_nil hH.open2.drop
  · have ho2 := ho
    obtain ⟨hlc, ⟨_, h, _⟩ | ⟨g, cap, cur, rfl, rfl, hnc, _⟩⟩ := ho
    · exact absurd (List.eq_nil_of_length_eq_zero h) hl
    · exact bs_row hH.open2 ho2 hl (fun e => hl (List.eq_nil_of_length_eq_zero (by omega)))
end Go.Q
