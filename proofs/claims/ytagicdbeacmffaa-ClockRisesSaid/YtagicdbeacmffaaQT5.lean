/-
  Parts of a walk: what functions of the program compute, each told by a theorem.
-/
import Derived.Test.YtagicdbeacmffaaQT4
import Derived.Test.YtagicdbeacmffaaQN1
set_option linter.unusedVariables false
set_option linter.unusedSimpArgs false
namespace Go.Q
open Go.Proofs
set_option linter.unusedVariables false
set_option maxRecDepth 100000
attribute [local irreducible] wpList OK Code.wp
set_option maxHeartbeats 4000000 in
theorem cpeek_c {E w : World} {R hs : List Hp} {b m1 m2 c1 c2 : Nat} {hi : Int} {v : Value} {es1 es2 : Array MapEntry} {str : List Int} {pg tx : List (Int × Int)} (hH : Has E w [hs, [Hp.one m1 (.map es1 c1)], [Hp.one m2 (.map es2 c2)], [Hp.one b (.cells #[(.int .i64 hi), v, (.map (some m1)), (.map (some m2))] 75 (0, 0))], R]) (ho : Own 3 1 v str.length (str.map iV) hs) (h1 : MapII es1 pg) (h2 : MapII es2 tx) (hge : ∀ q ∈ str, (0 : Int) ≤ q) (x y z : Int) :
    Calls Try.prog 18 #[(.pointer (some ⟨b, 0, none⟩)), (.int .i64 x), (.int .i64 y), (.int .i64 z)] w fun e w' => e = .returned (if 0 ≤ x ∧ x < (str.length : Int) then (if 4611686018427387903 ≤ (List.foldl max ((str[x.toNat]?).getD 0) [getI pg y, getI tx z]) then .tuple #[.int .i64 0, .int .i64 3] else .tuple #[.int .i64 ((List.foldl max ((str[x.toNat]?).getD 0) [getI pg y, getI tx z]) + 1), .int .i64 0]) else .tuple #[.int .i64 0, .int .i64 1]) ∧ Has E w' [hs, [Hp.one m1 (.map es1 c1)], [Hp.one m2 (.map es2 c2)], [Hp.one b (.cells #[(.int .i64 hi), v, (.map (some m1)), (.map (some m2))] 75 (0, 0))], R] := by
  refine c_enter (args := [(.pointer (some ⟨b, 0, none⟩)), (.int .i64 x), (.int .i64 y), (.int .i64 z)]) Try.func18 rfl Try.ntmps18 (by simp) ?_
  refine wp_seq_k fun K1 hK1 => ?_
  refine c_region ?_
  refine s_op (o_assign (v := (.int .i64 0)) rfl ?_)
  refine s_op (o_assign (v := (.int .i64 0)) rfl ?_)
  refine s_nil ?_
  refine t_norm (hK1 _ _ ?_)
  refine wp_seq_k fun K2 hK2 => ?_
  refine wp_seq_k fun K3 hK3 => ?_
  refine c_region ?_
  refine s_op (o_move (v := (.pointer (some ⟨b, 0, none⟩))) rfl ?_)
  refine s_op (o_move (v := (.int .i64 x)) rfl ?_)
  refine s_op (o_buildSlice (ps := #[(0, (.int .i64 x))]) (cells := #[(.int .i64 x)]) Try.underlying28 ti3 (by decide) (parts1 rfl) (by kernel_rfl) hH fun b4 w5 hH6 => ?_)
  refine s_op (o_callf (vs := #[(.pointer (some ⟨b, 0, none⟩)), (.slice (some ⟨b4, 0, none⟩) 1 1)]) ca46 rfl (args2 rfl rfl) (chas_c ((((hH6.front 4 rfl).front 4 rfl).front 4 rfl).front 4 rfl).all4 ho h1 h2 hge (l := [x]) ((sl_lit (f := iV) (l := [x]) rfl rfl (by simp)).mono (seg_sub 0 rfl))) ?_)
  rintro _ w9 ⟨rfl, hX7⟩
  refine ⟨_, rfl, ?_⟩
  have hH8 : Has E w9 [hs, [Hp.one m1 (.map es1 c1)], [Hp.one m2 (.map es2 c2)], [Hp.one b (.cells #[(.int .i64 hi), v, (.map (some m1)), (.map (some m2))] 75 (0, 0))], [Hp.one b4 (.cells #[(.int .i64 x)] 3 (0, 0))], R] := hX7.of_all4
  refine s_op (o_not2 (b := decide (∀ y ∈ [x], 0 ≤ y ∧ y < (str.length : Int))) (b' := decide (¬ (∀ y ∈ [x], 0 ≤ y ∧ y < (str.length : Int)))) rfl not_dec ?_)
  refine s_nil ?_
  refine t_norm (hK3 _ _ ?_)
  refine c_cond rfl (fun h10 => ?_) (fun h10 => ?_)
  · -- ¬ (∀ y ∈ [x], 0 ≤ y ∧ y < (str.length : Int))
    refine wp_seq_k fun K11 hK11 => ?_
    refine c_region ?_
    refine s_op (o_assign (v := (.int .i64 0)) rfl ?_)
    refine s_op (o_assign (v := (.int .i64 1)) rfl ?_)
    refine s_nil ?_
    refine t_norm (hK11 _ _ ?_)
    refine wp_ret ?_
    refine t_ret (c_ret2 Try.results18 (v := (.int .i64 0)) rfl (x := (.int .i64 1)) rfl ?_)
    have hH12 : Has E w9 [hs, [Hp.one m1 (.map es1 c1)], [Hp.one m2 (.map es2 c2)], [Hp.one b (.cells #[(.int .i64 hi), v, (.map (some m1)), (.map (some m2))] 75 (0, 0))], R] := (((((hH8.front 5 rfl).front 4 rfl).front 4 rfl).front 4 rfl).front 4 rfl).first 5 rfl
    rw [if_neg (by simp_all <;> omega)]
    exact ⟨rfl, hH12⟩
  · -- not: ¬ (∀ y ∈ [x], 0 ≤ y ∧ y < (str.length : Int))
    have hx_ : 0 ≤ x ∧ x < (str.length : Int) := by simpa using Classical.not_not.1 h10
    obtain ⟨hx0_, hx1_⟩ := hx_
    have hx_ : 0 ≤ x ∧ x < (str.length : Int) := ⟨hx0_, hx1_⟩
    refine wp_skip ?_
    refine t_norm (hK2 _ _ ?_)
    refine wp_seq_k fun K13 hK13 => ?_
    obtain ⟨x17, hx18⟩ : ∃ x_, str[(x).toNat]? = some x_ := get_some (by omega)
    refine c_flow [hs, [Hp.one m1 (.map es1 c1)], [Hp.one m2 (.map es2 c2)], [Hp.one b (.cells #[(.int .i64 hi), v, (.map (some m1)), (.map (some m2))] 75 (0, 0))], [Hp.one b4 (.cells #[(.int .i64 x)] 3 (0, 0))], R] (fun i_ => match i_ with | _ => []) (fun i_ v_ h_ => match i_ with | 0 => v_ = (.pointer (some ⟨b, 0, none⟩)) ∧ h_ = [] | 1 => v_ = (.pointer (some ⟨b, 0, none⟩)) ∧ h_ = [] | 2 => v_ = (.pointer (some ⟨b, 1, none⟩)) ∧ h_ = [] | 3 => v_ = v ∧ h_ = [] | 4 => v_ = (.int .i64 x) ∧ h_ = [] | 5 => ∃ (b14 : Nat) (o15 : Nat), v_ = (.pointer (some ⟨b14, o15, none⟩)) ∧ h_ = [] ∧ (CellsAt hs b14 o15 [(.int .i64 x17)]) | 6 => v_ = (.int .i64 x17) ∧ h_ = [] | 7 => v_ = (.pointer (some ⟨b, 0, none⟩)) ∧ h_ = [] | 8 => v_ = (.pointer (some ⟨b, 0, none⟩)) ∧ h_ = [] | 9 => v_ = (.pointer (some ⟨b, 2, none⟩)) ∧ h_ = [] | 10 => v_ = (.map (some m1)) ∧ h_ = [] | 11 => v_ = (.int .i64 y) ∧ h_ = [] | 12 => v_ = (.int .i64 (getI pg y)) ∧ h_ = [] | 13 => v_ = (.pointer (some ⟨b, 0, none⟩)) ∧ h_ = [] | 14 => v_ = (.pointer (some ⟨b, 0, none⟩)) ∧ h_ = [] | 15 => v_ = (.pointer (some ⟨b, 3, none⟩)) ∧ h_ = [] | 16 => v_ = (.map (some m2)) ∧ h_ = [] | 17 => v_ = (.int .i64 z) ∧ h_ = [] | 18 => v_ = (.int .i64 (getI tx z)) ∧ h_ = [] | 19 => ∃ (b19 : Nat), v_ = (.slice (some ⟨b19, 0, none⟩) 2 2) ∧ h_ = [Hp.one b19 (.cells #[(.int .i64 (getI pg y)), (.int .i64 (getI tx z))] 3 (0, 0))] | 20 => v_ = (.int .i64 ([getI pg y, getI tx z].foldl max x17)) ∧ h_ = [] | 21 => v_ = (.int .i64 ([getI pg y, getI tx z].foldl max x17)) ∧ h_ = [] | _ => True) mixed (by kernel_rfl) (flow_has (cs := []) hH8 rfl) ?_ ?_
    · intro i_ o_ ho_ r' w' G hs_ ht
      match i_, ho_ with
      | 0, ho_ =>
        obtain rfl := Option.some.inj ho_
        have e0 : r' 0 = (.pointer (some ⟨b, 0, none⟩)) := ht.was 0 (by kernel_rfl)
        have hG := ht.has.drop
        refine o_move (v := (.pointer (some ⟨b, 0, none⟩))) e0 ?_
        exact ⟨_, ⟨rfl, rfl⟩, hG⟩
      | 1, ho_ =>
        obtain rfl := Option.some.inj ho_
        obtain ⟨e16, eh0⟩ := (ht.done 0 _ rfl rfl).1
        have hG := ht.has.drop
        refine o_nilCheck e16 ?_
        exact ⟨_, ⟨rfl, rfl⟩, hG⟩
      | 2, ho_ =>
        obtain rfl := Option.some.inj ho_
        obtain ⟨e17, eh1⟩ := (ht.done 1 _ rfl rfl).1
        have hG := ht.has.drop
        refine o_fieldAddr (k := 1) (fun _ => by kernel_rfl) e17 ?_
        exact ⟨_, ⟨rfl, rfl⟩, hG⟩
      | 3, ho_ =>
        obtain rfl := Option.some.inj ho_
        obtain ⟨e18, eh2⟩ := (ht.done 2 _ rfl rfl).1
        have hG := ht.has.drop
        refine o_load1 (v := v) Try.underlying28 rfl e18 hG (ht.fr [Hp.one b (.cells #[(.int .i64 hi), v, (.map (some m1)), (.map (some m2))] 75 (0, 0))] (by simp)) (CellsAt.one rfl) ?_
        exact ⟨_, ⟨rfl, rfl⟩, hG⟩
      | 4, ho_ =>
        obtain rfl := Option.some.inj ho_
        have e1 : r' 1 = (.int .i64 x) := ht.was 1 (by kernel_rfl)
        have hG := ht.has.drop
        refine o_move (v := (.int .i64 x)) e1 ?_
        exact ⟨_, ⟨rfl, rfl⟩, hG⟩
      | 5, ho_ =>
        obtain rfl := Option.some.inj ho_
        obtain ⟨e19, eh3⟩ := (ht.done 3 _ rfl rfl).1
        obtain ⟨e20, eh4⟩ := (ht.done 4 _ rfl rfl).1
        have hG := ht.has.drop
        refine o_index1 Try.underlying28 ti3 e19 ho.sl e20 (by omega) hx18 fun b14 o15 hc16 => ?_
        exact ⟨_, ⟨b14, o15, rfl, rfl, hc16⟩, hG⟩
      | 6, ho_ =>
        obtain rfl := Option.some.inj ho_
        obtain ⟨b14, o15, e21, eh5, hc16⟩ := (ht.done 5 _ rfl rfl).1
        have hG := ht.has.drop
        refine o_load1 (v := (.int .i64 x17)) Try.underlying3 rfl e21 hG (ht.fr hs (by simp)) hc16 ?_
        exact ⟨_, ⟨rfl, rfl⟩, hG⟩
      | 7, ho_ =>
        obtain rfl := Option.some.inj ho_
        have e0 : r' 0 = (.pointer (some ⟨b, 0, none⟩)) := ht.was 0 (by kernel_rfl)
        have hG := ht.has.drop
        refine o_move (v := (.pointer (some ⟨b, 0, none⟩))) e0 ?_
        exact ⟨_, ⟨rfl, rfl⟩, hG⟩
      | 8, ho_ =>
        obtain rfl := Option.some.inj ho_
        obtain ⟨e23, eh7⟩ := (ht.done 7 _ rfl rfl).1
        have hG := ht.has.drop
        refine o_nilCheck e23 ?_
        exact ⟨_, ⟨rfl, rfl⟩, hG⟩
      | 9, ho_ =>
        obtain rfl := Option.some.inj ho_
        obtain ⟨e24, eh8⟩ := (ht.done 8 _ rfl rfl).1
        have hG := ht.has.drop
        refine o_fieldAddr (k := 2) (fun _ => by kernel_rfl) e24 ?_
        exact ⟨_, ⟨rfl, rfl⟩, hG⟩
      | 10, ho_ =>
        obtain rfl := Option.some.inj ho_
        obtain ⟨e25, eh9⟩ := (ht.done 9 _ rfl rfl).1
        have hG := ht.has.drop
        refine o_load1 (v := (.map (some m1))) Try.underlying71 rfl e25 hG (ht.fr [Hp.one b (.cells #[(.int .i64 hi), v, (.map (some m1)), (.map (some m2))] 75 (0, 0))] (by simp)) (CellsAt.one rfl) ?_
        exact ⟨_, ⟨rfl, rfl⟩, hG⟩
      | 11, ho_ =>
        obtain rfl := Option.some.inj ho_
        have e2 : r' 2 = (.int .i64 y) := ht.was 2 (by kernel_rfl)
        have hG := ht.has.drop
        refine o_move (v := (.int .i64 y)) e2 ?_
        exact ⟨_, ⟨rfl, rfl⟩, hG⟩
      | 12, ho_ =>
        obtain rfl := Option.some.inj ho_
        obtain ⟨e26, eh10⟩ := (ht.done 10 _ rfl rfl).1
        obtain ⟨e27, eh11⟩ := (ht.done 11 _ rfl rfl).1
        have hG := ht.has.drop
        refine o_lookupI (L := [Hp.one m1 (.map es1 c1)]) Try.underlying71 Try.underlying3 ti3 e26 e27 hG (ht.fr [Hp.one m1 (.map es1 c1)] (by simp)) rfl h1 ?_
        exact ⟨_, ⟨rfl, rfl⟩, hG⟩
      | 13, ho_ =>
        obtain rfl := Option.some.inj ho_
        have e0 : r' 0 = (.pointer (some ⟨b, 0, none⟩)) := ht.was 0 (by kernel_rfl)
        have hG := ht.has.drop
        refine o_move (v := (.pointer (some ⟨b, 0, none⟩))) e0 ?_
        exact ⟨_, ⟨rfl, rfl⟩, hG⟩
      | 14, ho_ =>
        obtain rfl := Option.some.inj ho_
        obtain ⟨e29, eh13⟩ := (ht.done 13 _ rfl rfl).1
        have hG := ht.has.drop
        refine o_nilCheck e29 ?_
        exact ⟨_, ⟨rfl, rfl⟩, hG⟩
      | 15, ho_ =>
        obtain rfl := Option.some.inj ho_
        obtain ⟨e30, eh14⟩ := (ht.done 14 _ rfl rfl).1
        have hG := ht.has.drop
        refine o_fieldAddr (k := 3) (fun _ => by kernel_rfl) e30 ?_
        exact ⟨_, ⟨rfl, rfl⟩, hG⟩
      | 16, ho_ =>
        obtain rfl := Option.some.inj ho_
        obtain ⟨e31, eh15⟩ := (ht.done 15 _ rfl rfl).1
        have hG := ht.has.drop
        refine o_load1 (v := (.map (some m2))) Try.underlying71 rfl e31 hG (ht.fr [Hp.one b (.cells #[(.int .i64 hi), v, (.map (some m1)), (.map (some m2))] 75 (0, 0))] (by simp)) (CellsAt.one rfl) ?_
        exact ⟨_, ⟨rfl, rfl⟩, hG⟩
      | 17, ho_ =>
        obtain rfl := Option.some.inj ho_
        have e3 : r' 3 = (.int .i64 z) := ht.was 3 (by kernel_rfl)
        have hG := ht.has.drop
        refine o_move (v := (.int .i64 z)) e3 ?_
        exact ⟨_, ⟨rfl, rfl⟩, hG⟩
      | 18, ho_ =>
        obtain rfl := Option.some.inj ho_
        obtain ⟨e32, eh16⟩ := (ht.done 16 _ rfl rfl).1
        obtain ⟨e33, eh17⟩ := (ht.done 17 _ rfl rfl).1
        have hG := ht.has.drop
        refine o_lookupI (L := [Hp.one m2 (.map es2 c2)]) Try.underlying71 Try.underlying3 ti3 e32 e33 hG (ht.fr [Hp.one m2 (.map es2 c2)] (by simp)) rfl h2 ?_
        exact ⟨_, ⟨rfl, rfl⟩, hG⟩
      | 19, ho_ =>
        obtain rfl := Option.some.inj ho_
        obtain ⟨e28, eh12⟩ := (ht.done 12 _ rfl rfl).1
        obtain ⟨e34, eh18⟩ := (ht.done 18 _ rfl rfl).1
        have hG := ht.has.drop
        refine o_buildSlice (ps := #[(0, (.int .i64 (getI pg y))), (1, (.int .i64 (getI tx z)))]) (cells := #[(.int .i64 (getI pg y)), (.int .i64 (getI tx z))]) Try.underlying28 ti3 (by decide) (parts2 e28 e34) (by kernel_rfl) hG fun b19 w20 hH21 => ?_
        exact ⟨_, ⟨b19, rfl, rfl⟩, hH21⟩
      | 20, ho_ =>
        obtain rfl := Option.some.inj ho_
        obtain ⟨b14, o15, e21, eh5, hc16⟩ := (ht.done 5 _ rfl rfl).1
        obtain ⟨e22, eh6⟩ := (ht.done 6 _ rfl rfl).1
        obtain ⟨b19, e35, eh19⟩ := (ht.done 19 _ rfl rfl).1
        have hG := ht.has.drop
        refine o_callf (vs := #[(.int .i64 x17), (.slice (some ⟨b19, 0, none⟩) 2 2)]) ca31 rfl (args2 e22 e35) (most_c hG.all (l := [getI pg y, getI tx z]) x17 ((sl_lit (f := iV) (l := [getI pg y, getI tx z]) rfl rfl (by simp)).mono (eh19 ▸ (ht.done 19 _ rfl rfl).2))) ?_
        rintro _ w24 ⟨rfl, hX22⟩
        refine ⟨_, rfl, ?_⟩
        have hH23 := hX22.of_all
        exact ⟨_, ⟨rfl, rfl⟩, hH23⟩
      | 21, ho_ =>
        obtain rfl := Option.some.inj ho_
        obtain ⟨b14, o15, e21, eh5, hc16⟩ := (ht.done 5 _ rfl rfl).1
        obtain ⟨b19, e35, eh19⟩ := (ht.done 19 _ rfl rfl).1
        obtain ⟨e36, eh20⟩ := (ht.done 20 _ rfl rfl).1
        have hG := ht.has.drop
        refine o_assign (v := (.int .i64 ([getI pg y, getI tx z].foldl max x17))) e36 ?_
        exact ⟨_, ⟨rfl, rfl⟩, hG⟩
      | i_ + 22, ho_ => exact absurd ho_ (by simp)
    · intro vs25 hs26 w27 hT28 hH29
      obtain ⟨e0_, eh0_⟩ := hT28 0 _ rfl
      obtain ⟨e1_, eh1_⟩ := hT28 1 _ rfl
      obtain ⟨e2_, eh2_⟩ := hT28 2 _ rfl
      obtain ⟨e3_, eh3_⟩ := hT28 3 _ rfl
      obtain ⟨e4_, eh4_⟩ := hT28 4 _ rfl
      obtain ⟨b14, o15, e5_, eh5_, hc16⟩ := hT28 5 _ rfl
      obtain ⟨e6_, eh6_⟩ := hT28 6 _ rfl
      obtain ⟨e7_, eh7_⟩ := hT28 7 _ rfl
      obtain ⟨e8_, eh8_⟩ := hT28 8 _ rfl
      obtain ⟨e9_, eh9_⟩ := hT28 9 _ rfl
      obtain ⟨e10_, eh10_⟩ := hT28 10 _ rfl
      obtain ⟨e11_, eh11_⟩ := hT28 11 _ rfl
      obtain ⟨e12_, eh12_⟩ := hT28 12 _ rfl
      obtain ⟨e13_, eh13_⟩ := hT28 13 _ rfl
      obtain ⟨e14_, eh14_⟩ := hT28 14 _ rfl
      obtain ⟨e15_, eh15_⟩ := hT28 15 _ rfl
      obtain ⟨e16_, eh16_⟩ := hT28 16 _ rfl
      obtain ⟨e17_, eh17_⟩ := hT28 17 _ rfl
      obtain ⟨e18_, eh18_⟩ := hT28 18 _ rfl
      obtain ⟨b19, e19_, eh19_⟩ := hT28 19 _ rfl
      obtain ⟨e20_, eh20_⟩ := hT28 20 _ rfl
      obtain ⟨e21_, eh21_⟩ := hT28 21 _ rfl
      have hH30 : Has E w27 ([hs, [Hp.one m1 (.map es1 c1)], [Hp.one m2 (.map es2 c2)], [Hp.one b (.cells #[(.int .i64 hi), v, (.map (some m1)), (.map (some m2))] 75 (0, 0))], [Hp.one b4 (.cells #[(.int .i64 x)] 3 (0, 0))], R] ++ [[Hp.one b19 (.cells #[(.int .i64 (getI pg y)), (.int .i64 (getI tx z))] 3 (0, 0))]]) := flow_back (cs := [[Hp.one b19 (.cells #[(.int .i64 (getI pg y)), (.int .i64 (getI tx z))] 3 (0, 0))]]) hH29 (by show (hs26 0 ++ (hs26 1 ++ (hs26 2 ++ (hs26 3 ++ (hs26 4 ++ (hs26 5 ++ (hs26 6 ++ (hs26 7 ++ (hs26 8 ++ (hs26 9 ++ (hs26 10 ++ (hs26 11 ++ (hs26 12 ++ (hs26 13 ++ (hs26 14 ++ (hs26 15 ++ (hs26 16 ++ (hs26 17 ++ (hs26 18 ++ (hs26 19 ++ (hs26 20 ++ (hs26 21 ++ [])))))))))))))))))))))) = _; rw [eh0_, eh1_, eh2_, eh3_, eh4_, eh5_, eh6_, eh7_, eh8_, eh9_, eh10_, eh11_, eh12_, eh13_, eh14_, eh15_, eh16_, eh17_, eh18_, eh19_, eh20_, eh21_]; rfl)
      generalize hr32 : puts vs25 _ 0 _ = r31
      have e33_0 : r31 0 = (.pointer (some ⟨b, 0, none⟩)) := by rw [← hr32]; exact rfl
      have e33_1 : r31 1 = (.int .i64 x) := by rw [← hr32]; exact rfl
      have e33_2 : r31 2 = (.int .i64 y) := by rw [← hr32]; exact rfl
      have e33_3 : r31 3 = (.int .i64 z) := by rw [← hr32]; exact rfl
      have e33_8 : r31 8 = (.int .i64 0) := by rw [← hr32]; exact rfl
      have e33_9 : r31 9 = (.int .i64 0) := by rw [← hr32]; exact rfl
      have e33_10 : r31 10 = (.int .i64 ([getI pg y, getI tx z].foldl max x17)) := by rw [← hr32]; exact e21_
      have e33_15 : r31 15 = (.bool (decide (¬ (∀ y ∈ [x], 0 ≤ y ∧ y < (str.length : Int))))) := by rw [← hr32]; exact rfl
      refine t_norm (hK13 _ _ ?_)
      refine wp_seq_k fun K34 hK34 => ?_
      refine wp_seq_k fun K35 hK35 => ?_
      refine c_region ?_
      refine s_op (o_move (v := (.int .i64 ([getI pg y, getI tx z].foldl max x17))) e33_10 ?_)
      refine s_op (o_geq (a := [getI pg y, getI tx z].foldl max x17) (b := 4611686018427387903) rfl rfl ?_)
      refine s_nil ?_
      refine t_norm (hK35 _ _ ?_)
      refine c_cond rfl (fun h36 => ?_) (fun h36 => ?_)
      · -- 4611686018427387903 ≤ [getI pg y, getI tx z].foldl max x17
        have hm_ := (fold_max_le [getI pg y, getI tx z] x17).1
        have hg_ := hge x17 (List.mem_of_getElem? hx18)
        refine wp_seq_k fun K37 hK37 => ?_
        refine c_region ?_
        refine s_op (o_assign (v := (.int .i64 0)) rfl ?_)
        refine s_op (o_assign (v := (.int .i64 3)) rfl ?_)
        refine s_nil ?_
        refine t_norm (hK37 _ _ ?_)
        refine wp_ret ?_
        refine t_ret (c_ret2 Try.results18 (v := (.int .i64 0)) rfl (x := (.int .i64 3)) rfl ?_)
        have hH38 : Has E w27 [hs, [Hp.one m1 (.map es1 c1)], [Hp.one m2 (.map es2 c2)], [Hp.one b (.cells #[(.int .i64 hi), v, (.map (some m1)), (.map (some m2))] 75 (0, 0))], R] := (((((hH30.front 5 rfl).front 4 rfl).front 4 rfl).front 4 rfl).front 4 rfl).first 5 rfl
        rw [if_pos hx_, hx18, Option.getD_some, if_pos (by omega)]
        exact ⟨rfl, hH38⟩
      · -- not: 4611686018427387903 ≤ [getI pg y, getI tx z].foldl max x17
        have hm_ := (fold_max_le [getI pg y, getI tx z] x17).1
        have hg_ := hge x17 (List.mem_of_getElem? hx18)
        refine wp_skip ?_
        refine t_norm (hK34 _ _ ?_)
        refine wp_seq_k fun K39 hK39 => ?_
        refine c_region ?_
        refine s_op (o_move (v := (.int .i64 ([getI pg y, getI tx z].foldl max x17))) e33_10 ?_)
        refine s_op (o_add (a := [getI pg y, getI tx z].foldl max x17) (b := 1) rfl rfl (w64 (by omega) (by omega)) ?_)
        refine s_op (o_assign (v := (.int .i64 (([getI pg y, getI tx z].foldl max x17) + 1))) rfl ?_)
        refine s_op (o_assign (v := (.int .i64 0)) rfl ?_)
        refine s_nil ?_
        refine t_norm (hK39 _ _ ?_)
        refine wp_ret ?_
        refine c_ret2 Try.results18 (v := (.int .i64 (([getI pg y, getI tx z].foldl max x17) + 1))) rfl (x := (.int .i64 0)) rfl ?_
        have hH40 : Has E w27 [hs, [Hp.one m1 (.map es1 c1)], [Hp.one m2 (.map es2 c2)], [Hp.one b (.cells #[(.int .i64 hi), v, (.map (some m1)), (.map (some m2))] 75 (0, 0))], R] := (((((hH30.front 5 rfl).front 4 rfl).front 4 rfl).front 4 rfl).front 4 rfl).first 5 rfl
        rw [if_pos hx_, hx18, Option.getD_some, if_neg (by omega)]
        exact ⟨rfl, hH40⟩
end Go.Q
