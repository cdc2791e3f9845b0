/-
  Parts of a walk: what functions of the program compute, each told by a theorem.
-/
import Derived.Test.YtagicdbeacmffaaDoorQV5
set_option linter.unusedVariables false
set_option linter.unusedSimpArgs false
namespace Go.Q
open Go.Proofs
set_option linter.unusedVariables false
set_option maxRecDepth 100000
attribute [local irreducible] wpList OK Code.wp
set_option maxHeartbeats 4000000 in
theorem make_c {E w : World} {R : List Hp} (hH : Has E w [R]) (hg : CellsAt R 0 0 nibV) (f : Fr) (hfl : f.data.length ≤ 9223372036854775807) {v : Value} {l : List (List UInt8)} (hv : Sl R 1 v l.length (l.map sV)) (hn : l.length ≤ 1000000) (hl : l.flatten.length ≤ 1000000000) (hd : f.data.length + l.flatten.length ≤ 9223372036854775807) :
    Calls Tryd.prog 26 #[(.agg #[(.int .i64 f.ep), (.int .i64 f.pl), (.int .i64 f.gsn), (S f.data)]), v] w fun e w' => e = .returned (S (makeS (Fr.mk f.ep f.pl f.gsn (f.data ++ l.flatten)))) ∧ Has E w' [R] := by
  refine c_enter (args := [(.agg #[(.int .i64 f.ep), (.int .i64 f.pl), (.int .i64 f.gsn), (S f.data)]), v]) Tryd.func26 rfl Tryd.ntmps26 (by simp) ?_
  refine wp_seq_k fun K1 hK1 => ?_
  refine c_region ?_
  refine s_op (o_box (cs := #[(.int .i64 f.ep), (.int .i64 f.pl), (.int .i64 f.gsn), (S f.data)]) rfl rfl hH fun b2 w3 hH4 => ?_)
  refine s_op (o_assign (v := (S ([] : List UInt8))) rfl ?_)
  refine s_nil ?_
  refine t_norm (hK1 _ _ ?_)
  refine wp_seq_k fun K5 hK5 => ?_
  have hH11 : Has E w3 [R, [Hp.one b2 (.cells #[(.int .i64 f.ep), (.int .i64 f.pl), (.int .i64 f.gsn), (S f.data)] 40 (0, 0))]] := (hH4.front 1 rfl).first 2 rfl
  refine c_flow [R] (fun i_ => match i_ with | 6 => [Hp.one b2 (.cells #[(.int .i64 f.ep), (.int .i64 f.pl), (.int .i64 f.gsn), (S f.data)] 40 (0, 0))] | _ => []) (fun i_ v_ h_ => match i_ with | 0 => v_ = (.pointer (some ⟨b2, 3, none⟩)) ∧ h_ = [] | 1 => v_ = (S f.data) ∧ h_ = [] | 2 => v_ = v ∧ h_ = [] | 3 => v_ = (S l.flatten) ∧ h_ = [] | 4 => v_ = (S (f.data ++ l.flatten)) ∧ h_ = [] | 5 => v_ = (.pointer (some ⟨b2, 3, none⟩)) ∧ h_ = [] | 6 => v_ = undef ∧ h_ = [Hp.one b2 (.cells #[(.int .i64 f.ep), (.int .i64 f.pl), (.int .i64 f.gsn), (S (f.data ++ l.flatten))] 40 (0, 0))] | _ => True) mixed (by kernel_rfl) (flow_has (cs := [[Hp.one b2 (.cells #[(.int .i64 f.ep), (.int .i64 f.pl), (.int .i64 f.gsn), (S f.data)] 40 (0, 0))]]) hH11 rfl) ?_ ?_
  · intro i_ o_ ho_ r' w' G hs_ ht
    match i_, ho_ with
    | 0, ho_ =>
      obtain rfl := Option.some.inj ho_
      have e2 : r' 2 = (.pointer (some ⟨b2, 0, none⟩)) := ht.was 2 (by kernel_rfl)
      have hG := ht.has.drop
      refine o_fieldAddr (k := 3) (fun _ => by kernel_rfl) e2 ?_
      exact ⟨_, ⟨rfl, rfl⟩, hG⟩
    | 1, ho_ =>
      obtain rfl := Option.some.inj ho_
      obtain ⟨e5, eh0⟩ := (ht.done 0 _ rfl rfl).1
      have hG := ht.has.drop
      refine o_load1 (v := (S f.data)) Tryd.underlying9 rfl e5 hG (ht.todo 6 rfl) (CellsAt.one rfl) ?_
      exact ⟨_, ⟨rfl, rfl⟩, hG⟩
    | 2, ho_ =>
      obtain rfl := Option.some.inj ho_
      have e1 : r' 1 = v := ht.was 1 (by kernel_rfl)
      have hG := ht.has.drop
      refine o_move (v := v) e1 ?_
      exact ⟨_, ⟨rfl, rfl⟩, hG⟩
    | 3, ho_ =>
      obtain rfl := Option.some.inj ho_
      obtain ⟨e7, eh2⟩ := (ht.done 2 _ rfl rfl).1
      have hG := ht.has.drop
      refine o_callf (vs := #[v, (S ([] : List UInt8))]) ca36 rfl (args2 e7 rfl) (join_c hG.all (hv.mono (ht.fr R (by simp))) hn hl) ?_
      rintro _ w8 ⟨rfl, hX6⟩
      refine ⟨_, rfl, ?_⟩
      have hH7 := hX6.of_all
      exact ⟨_, ⟨rfl, rfl⟩, hH7⟩
    | 4, ho_ =>
      obtain rfl := Option.some.inj ho_
      obtain ⟨e6, eh1⟩ := (ht.done 1 _ rfl rfl).1
      obtain ⟨e8, eh3⟩ := (ht.done 3 _ rfl rfl).1
      have hG := ht.has.drop
      refine o_sadd e6 e8 (by omega) ?_
      exact ⟨_, ⟨rfl, rfl⟩, hG⟩
    | 5, ho_ =>
      obtain rfl := Option.some.inj ho_
      have e2 : r' 2 = (.pointer (some ⟨b2, 0, none⟩)) := ht.was 2 (by kernel_rfl)
      have hG := ht.has.drop
      refine o_fieldAddr (k := 3) (fun _ => by kernel_rfl) e2 ?_
      exact ⟨_, ⟨rfl, rfl⟩, hG⟩
    | 6, ho_ =>
      obtain rfl := Option.some.inj ho_
      obtain ⟨e9, eh4⟩ := (ht.done 4 _ rfl rfl).1
      obtain ⟨e10, eh5⟩ := (ht.done 5 _ rfl rfl).1
      have hG := ht.has
      refine o_store1 (c' := #[(.int .i64 f.ep), (.int .i64 f.pl), (.int .i64 f.gsn), (S (f.data ++ l.flatten))]) ti9 e10 e9 rfl (by simp) rfl (hG.front 0 rfl) fun w9 hH10 => ?_
      exact ⟨_, ⟨rfl, rfl⟩, hH10⟩
    | i_ + 7, ho_ => exact absurd ho_ (by simp)
  · intro vs11 hs12 w13 hT14 hH15
    obtain ⟨e0_, eh0_⟩ := hT14 0 _ rfl
    obtain ⟨e1_, eh1_⟩ := hT14 1 _ rfl
    obtain ⟨e2_, eh2_⟩ := hT14 2 _ rfl
    obtain ⟨e3_, eh3_⟩ := hT14 3 _ rfl
    obtain ⟨e4_, eh4_⟩ := hT14 4 _ rfl
    obtain ⟨e5_, eh5_⟩ := hT14 5 _ rfl
    obtain ⟨e6_, eh6_⟩ := hT14 6 _ rfl
    have hH16 : Has E w13 ([R] ++ [[Hp.one b2 (.cells #[(.int .i64 f.ep), (.int .i64 f.pl), (.int .i64 f.gsn), (S (f.data ++ l.flatten))] 40 (0, 0))]]) := flow_back (cs := [[Hp.one b2 (.cells #[(.int .i64 f.ep), (.int .i64 f.pl), (.int .i64 f.gsn), (S (f.data ++ l.flatten))] 40 (0, 0))]]) hH15 (by show (hs12 0 ++ (hs12 1 ++ (hs12 2 ++ (hs12 3 ++ (hs12 4 ++ (hs12 5 ++ (hs12 6 ++ []))))))) = _; rw [eh0_, eh1_, eh2_, eh3_, eh4_, eh5_, eh6_]; rfl)
    generalize hr18 : puts vs11 _ 0 _ = r17
    have e19_0 : r17 0 = (.agg #[(.int .i64 f.ep), (.int .i64 f.pl), (.int .i64 f.gsn), (S f.data)]) := by rw [← hr18]; exact rfl
    have e19_1 : r17 1 = v := by rw [← hr18]; exact rfl
    have e19_2 : r17 2 = (.pointer (some ⟨b2, 0, none⟩)) := by rw [← hr18]; exact rfl
    have e19_4 : r17 4 = (S ([] : List UInt8)) := by rw [← hr18]; exact rfl
    refine t_norm (hK5 _ _ ?_)
    refine wp_seq_k fun K20 hK20 => ?_
    refine wp_seq_k fun K21 hK21 => ?_
    refine c_region ?_
    refine s_op (o_loadN (cs := [(.int .i64 f.ep), (.int .i64 f.pl), (.int .i64 f.gsn), (S (f.data ++ l.flatten))]) Tryd.underlying40 rfl ti40 e19_2 hH16 (seg_sub 1 rfl) (CellsAt.one rfl) ?_)
    refine s_op (o_callf (vs := #[(.agg #[(.int .i64 f.ep), (.int .i64 f.pl), (.int .i64 f.gsn), (S (f.data ++ l.flatten))])]) ca38 rfl (args1 rfl) (right_c hH16.all (Fr.mk f.ep f.pl f.gsn (f.data ++ l.flatten)) (by simp only [List.length_append]; omega)) ?_)
    rintro _ w24 ⟨rfl, hX22⟩
    refine ⟨_, rfl, ?_⟩
    have hH23 := hX22.of_all
    refine s_op (o_not rfl ?_)
    refine s_nil ?_
    refine t_norm (hK21 _ _ ?_)
    refine c_condb rfl (fun h25 => ?_) (fun h25 => ?_)
    · -- !(rightS (Fr.mk f.ep f.pl f.gsn (f.data ++ l.flatten)))
      refine wp_seq_k fun K26 hK26 => ?_
      refine c_region ?_
      refine s_op (o_assign (v := (S ([] : List UInt8))) rfl ?_)
      refine s_nil ?_
      refine t_norm (hK26 _ _ ?_)
      refine wp_ret ?_
      refine t_ret (c_ret1 Tryd.results26  (v := (S ([] : List UInt8))) rfl ?_)
      have hH27 : Has E w24 [R] := hH23.first 1 rfl
      exact ⟨by rw [makeS_no (by simpa using ‹(!_) = true›)], hH27⟩
    · -- not: !(rightS (Fr.mk f.ep f.pl f.gsn (f.data ++ l.flatten)))
      have hr : rightS (Fr.mk f.ep f.pl f.gsn (f.data ++ l.flatten)) = true := by simpa using h25
      have hrl := (rightS_of hr).2.2.2.2.2.2
      simp only [List.length_append] at hrl
      refine wp_skip ?_
      refine t_norm (hK20 _ _ ?_)
      refine wp_seq_k fun K28 hK28 => ?_
      refine c_flow [R, [Hp.one b2 (.cells #[(.int .i64 f.ep), (.int .i64 f.pl), (.int .i64 f.gsn), (S (f.data ++ l.flatten))] 40 (0, 0))]] (fun i_ => match i_ with | _ => []) (fun i_ v_ h_ => match i_ with | 0 => v_ = (.pointer (some ⟨b2, 3, none⟩)) ∧ h_ = [] | 1 => v_ = (S (f.data ++ l.flatten)) ∧ h_ = [] | 2 => v_ = (.int .i64 ((f.data ++ l.flatten).length : Int)) ∧ h_ = [] | 3 => ∃ (b29 : Nat), v_ = (.slice (some ⟨b29, 0, none⟩) 1 1) ∧ h_ = [Hp.one b29 (.cells #[(.int .i64 ((f.data ++ l.flatten).length : Int))] 3 (0, 0))] | 4 => v_ = (S (putS 1 [((f.data ++ l.flatten).length : Int)])) ∧ h_ = [] | 5 => v_ = (.pointer (some ⟨b2, 0, none⟩)) ∧ h_ = [] | 6 => v_ = (.int .i64 f.ep) ∧ h_ = [] | 7 => ∃ (b35 : Nat), v_ = (.slice (some ⟨b35, 0, none⟩) 1 1) ∧ h_ = [Hp.one b35 (.cells #[(.int .i64 f.ep)] 3 (0, 0))] | 8 => v_ = (S (putS 4 [f.ep])) ∧ h_ = [] | 9 => v_ = (.pointer (some ⟨b2, 1, none⟩)) ∧ h_ = [] | 10 => v_ = (.int .i64 f.pl) ∧ h_ = [] | 11 => v_ = (.pointer (some ⟨b2, 2, none⟩)) ∧ h_ = [] | 12 => v_ = (.int .i64 f.gsn) ∧ h_ = [] | 13 => ∃ (b41 : Nat), v_ = (.slice (some ⟨b41, 0, none⟩) 2 2) ∧ h_ = [Hp.one b41 (.cells #[(.int .i64 f.pl), (.int .i64 f.gsn)] 3 (0, 0))] | 14 => v_ = (S (putS 8 [f.pl, f.gsn])) ∧ h_ = [] | 15 => v_ = (.pointer (some ⟨b2, 3, none⟩)) ∧ h_ = [] | 16 => v_ = (S (f.data ++ l.flatten)) ∧ h_ = [] | 17 => ∃ (b47 : Nat), v_ = (.slice (some ⟨b47, 0, none⟩) 4 4) ∧ h_ = [Hp.one b47 (.cells #[(S (putS 1 [((f.data ++ l.flatten).length : Int)])), (S (putS 4 [f.ep])), (S (putS 8 [f.pl, f.gsn])), (S (f.data ++ l.flatten))] 9 (0, 0))] | 18 => v_ = (S (sealS [(putS 1 [((f.data ++ l.flatten).length : Int)]), (putS 4 [f.ep]), (putS 8 [f.pl, f.gsn]), f.data ++ l.flatten].flatten)) ∧ h_ = [] | 19 => v_ = (S (sealS [(putS 1 [((f.data ++ l.flatten).length : Int)]), (putS 4 [f.ep]), (putS 8 [f.pl, f.gsn]), f.data ++ l.flatten].flatten)) ∧ h_ = [] | _ => True) mixed (by kernel_rfl) (flow_has (cs := []) hH23 rfl) ?_ ?_
      · intro i_ o_ ho_ r' w' G hs_ ht
        match i_, ho_ with
        | 0, ho_ =>
          obtain rfl := Option.some.inj ho_
          have e2 : r' 2 = (.pointer (some ⟨b2, 0, none⟩)) := (ht.was 2 (by kernel_rfl)).trans e19_2
          have hG := ht.has.drop
          refine o_fieldAddr (k := 3) (fun _ => by kernel_rfl) e2 ?_
          exact ⟨_, ⟨rfl, rfl⟩, hG⟩
        | 1, ho_ =>
          obtain rfl := Option.some.inj ho_
          obtain ⟨e14, eh0⟩ := (ht.done 0 _ rfl rfl).1
          have hG := ht.has.drop
          refine o_load1 (v := (S (f.data ++ l.flatten))) Tryd.underlying9 rfl e14 hG (ht.fr [Hp.one b2 (.cells #[(.int .i64 f.ep), (.int .i64 f.pl), (.int .i64 f.gsn), (S (f.data ++ l.flatten))] 40 (0, 0))] (by simp)) (CellsAt.one rfl) ?_
          exact ⟨_, ⟨rfl, rfl⟩, hG⟩
        | 2, ho_ =>
          obtain rfl := Option.some.inj ho_
          obtain ⟨e15, eh1⟩ := (ht.done 1 _ rfl rfl).1
          have hG := ht.has.drop
          refine o_slen Tryd.underlying9 e15 ?_
          exact ⟨_, ⟨rfl, rfl⟩, hG⟩
        | 3, ho_ =>
          obtain rfl := Option.some.inj ho_
          obtain ⟨e16, eh2⟩ := (ht.done 2 _ rfl rfl).1
          have hG := ht.has.drop
          refine o_buildSlice (ps := #[(0, (.int .i64 ((f.data ++ l.flatten).length : Int)))]) (cells := #[(.int .i64 ((f.data ++ l.flatten).length : Int))]) Tryd.underlying37 ti3 (by decide) (parts1 e16) (by kernel_rfl) hG fun b29 w30 hH31 => ?_
          exact ⟨_, ⟨b29, rfl, rfl⟩, hH31⟩
        | 4, ho_ =>
          obtain rfl := Option.some.inj ho_
          obtain ⟨b29, e17, eh3⟩ := (ht.done 3 _ rfl rfl).1
          have hG := ht.has.drop
          refine o_callf (vs := #[(.int .i64 1), (.slice (some ⟨b29, 0, none⟩) 1 1)]) ca40 rfl (args2 rfl e17) (put_c hG.all 1 (l := [((f.data ++ l.flatten).length : Int)]) ((sl_lit (f := iV) (l := [((f.data ++ l.flatten).length : Int)]) rfl rfl (by simp)).mono (eh3 ▸ (ht.done 3 _ rfl rfl).2)) (by simp)) ?_
          rintro _ w34 ⟨rfl, hX32⟩
          refine ⟨_, rfl, ?_⟩
          have hH33 := hX32.of_all
          exact ⟨_, ⟨rfl, rfl⟩, hH33⟩
        | 5, ho_ =>
          obtain rfl := Option.some.inj ho_
          have e2 : r' 2 = (.pointer (some ⟨b2, 0, none⟩)) := (ht.was 2 (by kernel_rfl)).trans e19_2
          have hG := ht.has.drop
          refine o_fieldAddr (k := 0) (fun _ => by kernel_rfl) e2 ?_
          exact ⟨_, ⟨rfl, rfl⟩, hG⟩
        | 6, ho_ =>
          obtain rfl := Option.some.inj ho_
          obtain ⟨e19, eh5⟩ := (ht.done 5 _ rfl rfl).1
          have hG := ht.has.drop
          refine o_load1 (v := (.int .i64 f.ep)) Tryd.underlying3 rfl e19 hG (ht.fr [Hp.one b2 (.cells #[(.int .i64 f.ep), (.int .i64 f.pl), (.int .i64 f.gsn), (S (f.data ++ l.flatten))] 40 (0, 0))] (by simp)) (CellsAt.one rfl) ?_
          exact ⟨_, ⟨rfl, rfl⟩, hG⟩
        | 7, ho_ =>
          obtain rfl := Option.some.inj ho_
          obtain ⟨e20, eh6⟩ := (ht.done 6 _ rfl rfl).1
          have hG := ht.has.drop
          refine o_buildSlice (ps := #[(0, (.int .i64 f.ep))]) (cells := #[(.int .i64 f.ep)]) Tryd.underlying37 ti3 (by decide) (parts1 e20) (by kernel_rfl) hG fun b35 w36 hH37 => ?_
          exact ⟨_, ⟨b35, rfl, rfl⟩, hH37⟩
        | 8, ho_ =>
          obtain rfl := Option.some.inj ho_
          obtain ⟨b29, e17, eh3⟩ := (ht.done 3 _ rfl rfl).1
          obtain ⟨b35, e21, eh7⟩ := (ht.done 7 _ rfl rfl).1
          have hG := ht.has.drop
          refine o_callf (vs := #[(.int .i64 4), (.slice (some ⟨b35, 0, none⟩) 1 1)]) ca40 rfl (args2 rfl e21) (put_c hG.all 4 (l := [f.ep]) ((sl_lit (f := iV) (l := [f.ep]) rfl rfl (by simp)).mono (eh7 ▸ (ht.done 7 _ rfl rfl).2)) (by simp)) ?_
          rintro _ w40 ⟨rfl, hX38⟩
          refine ⟨_, rfl, ?_⟩
          have hH39 := hX38.of_all
          exact ⟨_, ⟨rfl, rfl⟩, hH39⟩
        | 9, ho_ =>
          obtain rfl := Option.some.inj ho_
          have e2 : r' 2 = (.pointer (some ⟨b2, 0, none⟩)) := (ht.was 2 (by kernel_rfl)).trans e19_2
          have hG := ht.has.drop
          refine o_fieldAddr (k := 1) (fun _ => by kernel_rfl) e2 ?_
          exact ⟨_, ⟨rfl, rfl⟩, hG⟩
        | 10, ho_ =>
          obtain rfl := Option.some.inj ho_
          obtain ⟨e23, eh9⟩ := (ht.done 9 _ rfl rfl).1
          have hG := ht.has.drop
          refine o_load1 (v := (.int .i64 f.pl)) Tryd.underlying3 rfl e23 hG (ht.fr [Hp.one b2 (.cells #[(.int .i64 f.ep), (.int .i64 f.pl), (.int .i64 f.gsn), (S (f.data ++ l.flatten))] 40 (0, 0))] (by simp)) (CellsAt.one rfl) ?_
          exact ⟨_, ⟨rfl, rfl⟩, hG⟩
        | 11, ho_ =>
          obtain rfl := Option.some.inj ho_
          have e2 : r' 2 = (.pointer (some ⟨b2, 0, none⟩)) := (ht.was 2 (by kernel_rfl)).trans e19_2
          have hG := ht.has.drop
          refine o_fieldAddr (k := 2) (fun _ => by kernel_rfl) e2 ?_
          exact ⟨_, ⟨rfl, rfl⟩, hG⟩
        | 12, ho_ =>
          obtain rfl := Option.some.inj ho_
          obtain ⟨e25, eh11⟩ := (ht.done 11 _ rfl rfl).1
          have hG := ht.has.drop
          refine o_load1 (v := (.int .i64 f.gsn)) Tryd.underlying3 rfl e25 hG (ht.fr [Hp.one b2 (.cells #[(.int .i64 f.ep), (.int .i64 f.pl), (.int .i64 f.gsn), (S (f.data ++ l.flatten))] 40 (0, 0))] (by simp)) (CellsAt.one rfl) ?_
          exact ⟨_, ⟨rfl, rfl⟩, hG⟩
        | 13, ho_ =>
          obtain rfl := Option.some.inj ho_
          obtain ⟨e24, eh10⟩ := (ht.done 10 _ rfl rfl).1
          obtain ⟨e26, eh12⟩ := (ht.done 12 _ rfl rfl).1
          have hG := ht.has.drop
          refine o_buildSlice (ps := #[(0, (.int .i64 f.pl)), (1, (.int .i64 f.gsn))]) (cells := #[(.int .i64 f.pl), (.int .i64 f.gsn)]) Tryd.underlying37 ti3 (by decide) (parts2 e24 e26) (by kernel_rfl) hG fun b41 w42 hH43 => ?_
          exact ⟨_, ⟨b41, rfl, rfl⟩, hH43⟩
        | 14, ho_ =>
          obtain rfl := Option.some.inj ho_
          obtain ⟨b29, e17, eh3⟩ := (ht.done 3 _ rfl rfl).1
          obtain ⟨b35, e21, eh7⟩ := (ht.done 7 _ rfl rfl).1
          obtain ⟨b41, e27, eh13⟩ := (ht.done 13 _ rfl rfl).1
          have hG := ht.has.drop
          refine o_callf (vs := #[(.int .i64 8), (.slice (some ⟨b41, 0, none⟩) 2 2)]) ca40 rfl (args2 rfl e27) (put_c hG.all 8 (l := [f.pl, f.gsn]) ((sl_lit (f := iV) (l := [f.pl, f.gsn]) rfl rfl (by simp)).mono (eh13 ▸ (ht.done 13 _ rfl rfl).2)) (by simp)) ?_
          rintro _ w46 ⟨rfl, hX44⟩
          refine ⟨_, rfl, ?_⟩
          have hH45 := hX44.of_all
          exact ⟨_, ⟨rfl, rfl⟩, hH45⟩
        | 15, ho_ =>
          obtain rfl := Option.some.inj ho_
          have e2 : r' 2 = (.pointer (some ⟨b2, 0, none⟩)) := (ht.was 2 (by kernel_rfl)).trans e19_2
          have hG := ht.has.drop
          refine o_fieldAddr (k := 3) (fun _ => by kernel_rfl) e2 ?_
          exact ⟨_, ⟨rfl, rfl⟩, hG⟩
        | 16, ho_ =>
          obtain rfl := Option.some.inj ho_
          obtain ⟨e29, eh15⟩ := (ht.done 15 _ rfl rfl).1
          have hG := ht.has.drop
          refine o_load1 (v := (S (f.data ++ l.flatten))) Tryd.underlying9 rfl e29 hG (ht.fr [Hp.one b2 (.cells #[(.int .i64 f.ep), (.int .i64 f.pl), (.int .i64 f.gsn), (S (f.data ++ l.flatten))] 40 (0, 0))] (by simp)) (CellsAt.one rfl) ?_
          exact ⟨_, ⟨rfl, rfl⟩, hG⟩
        | 17, ho_ =>
          obtain rfl := Option.some.inj ho_
          obtain ⟨b29, e17, eh3⟩ := (ht.done 3 _ rfl rfl).1
          obtain ⟨e18, eh4⟩ := (ht.done 4 _ rfl rfl).1
          obtain ⟨b35, e21, eh7⟩ := (ht.done 7 _ rfl rfl).1
          obtain ⟨e22, eh8⟩ := (ht.done 8 _ rfl rfl).1
          obtain ⟨b41, e27, eh13⟩ := (ht.done 13 _ rfl rfl).1
          obtain ⟨e28, eh14⟩ := (ht.done 14 _ rfl rfl).1
          obtain ⟨e30, eh16⟩ := (ht.done 16 _ rfl rfl).1
          have hG := ht.has.drop
          refine o_buildSlice (ps := #[(0, (S (putS 1 [((f.data ++ l.flatten).length : Int)]))), (1, (S (putS 4 [f.ep]))), (2, (S (putS 8 [f.pl, f.gsn]))), (3, (S (f.data ++ l.flatten)))]) (cells := #[(S (putS 1 [((f.data ++ l.flatten).length : Int)])), (S (putS 4 [f.ep])), (S (putS 8 [f.pl, f.gsn])), (S (f.data ++ l.flatten))]) Tryd.underlying22 ti9 (by decide) (parts4 e18 e22 e28 e30) (by kernel_rfl) hG fun b47 w48 hH49 => ?_
          exact ⟨_, ⟨b47, rfl, rfl⟩, hH49⟩
        | 18, ho_ =>
          obtain rfl := Option.some.inj ho_
          obtain ⟨b29, e17, eh3⟩ := (ht.done 3 _ rfl rfl).1
          obtain ⟨b35, e21, eh7⟩ := (ht.done 7 _ rfl rfl).1
          obtain ⟨b41, e27, eh13⟩ := (ht.done 13 _ rfl rfl).1
          obtain ⟨b47, e31, eh17⟩ := (ht.done 17 _ rfl rfl).1
          have hG := ht.has.drop
          refine o_callf (vs := #[(.slice (some ⟨b47, 0, none⟩) 4 4)]) ca18 rfl (args1 e31) (seal_c hG.all (hg.mono (ht.fr R (by simp))) ((sl_lit (f := sV) (l := [(putS 1 [((f.data ++ l.flatten).length : Int)]), (putS 4 [f.ep]), (putS 8 [f.pl, f.gsn]), f.data ++ l.flatten]) rfl rfl (by simp)).mono (eh17 ▸ (ht.done 17 _ rfl rfl).2)) (by simp) (by rw [put_flat hr, List.length_append, headS_len]; simp only [List.length_append]; omega)) ?_
          rintro _ w52 ⟨rfl, hX50⟩
          refine ⟨_, rfl, ?_⟩
          have hH51 := hX50.of_all
          exact ⟨_, ⟨rfl, rfl⟩, hH51⟩
        | 19, ho_ =>
          obtain rfl := Option.some.inj ho_
          obtain ⟨b29, e17, eh3⟩ := (ht.done 3 _ rfl rfl).1
          obtain ⟨b35, e21, eh7⟩ := (ht.done 7 _ rfl rfl).1
          obtain ⟨b41, e27, eh13⟩ := (ht.done 13 _ rfl rfl).1
          obtain ⟨b47, e31, eh17⟩ := (ht.done 17 _ rfl rfl).1
          obtain ⟨e32, eh18⟩ := (ht.done 18 _ rfl rfl).1
          have hG := ht.has.drop
          refine o_assign (v := (S (sealS [(putS 1 [((f.data ++ l.flatten).length : Int)]), (putS 4 [f.ep]), (putS 8 [f.pl, f.gsn]), f.data ++ l.flatten].flatten))) e32 ?_
          exact ⟨_, ⟨rfl, rfl⟩, hG⟩
        | i_ + 20, ho_ => exact absurd ho_ (by simp)
      · intro vs53 hs54 w55 hT56 hH57
        obtain ⟨e0_, eh0_⟩ := hT56 0 _ rfl
        obtain ⟨e1_, eh1_⟩ := hT56 1 _ rfl
        obtain ⟨e2_, eh2_⟩ := hT56 2 _ rfl
        obtain ⟨b29, e3_, eh3_⟩ := hT56 3 _ rfl
        obtain ⟨e4_, eh4_⟩ := hT56 4 _ rfl
        obtain ⟨e5_, eh5_⟩ := hT56 5 _ rfl
        obtain ⟨e6_, eh6_⟩ := hT56 6 _ rfl
        obtain ⟨b35, e7_, eh7_⟩ := hT56 7 _ rfl
        obtain ⟨e8_, eh8_⟩ := hT56 8 _ rfl
        obtain ⟨e9_, eh9_⟩ := hT56 9 _ rfl
        obtain ⟨e10_, eh10_⟩ := hT56 10 _ rfl
        obtain ⟨e11_, eh11_⟩ := hT56 11 _ rfl
        obtain ⟨e12_, eh12_⟩ := hT56 12 _ rfl
        obtain ⟨b41, e13_, eh13_⟩ := hT56 13 _ rfl
        obtain ⟨e14_, eh14_⟩ := hT56 14 _ rfl
        obtain ⟨e15_, eh15_⟩ := hT56 15 _ rfl
        obtain ⟨e16_, eh16_⟩ := hT56 16 _ rfl
        obtain ⟨b47, e17_, eh17_⟩ := hT56 17 _ rfl
        obtain ⟨e18_, eh18_⟩ := hT56 18 _ rfl
        obtain ⟨e19_, eh19_⟩ := hT56 19 _ rfl
        have hH58 : Has E w55 ([R, [Hp.one b2 (.cells #[(.int .i64 f.ep), (.int .i64 f.pl), (.int .i64 f.gsn), (S (f.data ++ l.flatten))] 40 (0, 0))]] ++ [[Hp.one b29 (.cells #[(.int .i64 ((f.data ++ l.flatten).length : Int))] 3 (0, 0))], [Hp.one b35 (.cells #[(.int .i64 f.ep)] 3 (0, 0))], [Hp.one b41 (.cells #[(.int .i64 f.pl), (.int .i64 f.gsn)] 3 (0, 0))], [Hp.one b47 (.cells #[(S (putS 1 [((f.data ++ l.flatten).length : Int)])), (S (putS 4 [f.ep])), (S (putS 8 [f.pl, f.gsn])), (S (f.data ++ l.flatten))] 9 (0, 0))]]) := flow_back (cs := [[Hp.one b29 (.cells #[(.int .i64 ((f.data ++ l.flatten).length : Int))] 3 (0, 0))], [Hp.one b35 (.cells #[(.int .i64 f.ep)] 3 (0, 0))], [Hp.one b41 (.cells #[(.int .i64 f.pl), (.int .i64 f.gsn)] 3 (0, 0))], [Hp.one b47 (.cells #[(S (putS 1 [((f.data ++ l.flatten).length : Int)])), (S (putS 4 [f.ep])), (S (putS 8 [f.pl, f.gsn])), (S (f.data ++ l.flatten))] 9 (0, 0))]]) hH57 (by show (hs54 0 ++ (hs54 1 ++ (hs54 2 ++ (hs54 3 ++ (hs54 4 ++ (hs54 5 ++ (hs54 6 ++ (hs54 7 ++ (hs54 8 ++ (hs54 9 ++ (hs54 10 ++ (hs54 11 ++ (hs54 12 ++ (hs54 13 ++ (hs54 14 ++ (hs54 15 ++ (hs54 16 ++ (hs54 17 ++ (hs54 18 ++ (hs54 19 ++ [])))))))))))))))))))) = _; rw [eh0_, eh1_, eh2_, eh3_, eh4_, eh5_, eh6_, eh7_, eh8_, eh9_, eh10_, eh11_, eh12_, eh13_, eh14_, eh15_, eh16_, eh17_, eh18_, eh19_]; rfl)
        generalize hr60 : puts vs53 _ 0 _ = r59
        have e61_0 : r59 0 = (.agg #[(.int .i64 f.ep), (.int .i64 f.pl), (.int .i64 f.gsn), (S f.data)]) := by rw [← hr60]; exact e19_0
        have e61_1 : r59 1 = v := by rw [← hr60]; exact e19_1
        have e61_2 : r59 2 = (.pointer (some ⟨b2, 0, none⟩)) := by rw [← hr60]; exact e19_2
        have e61_4 : r59 4 = (S (sealS [(putS 1 [((f.data ++ l.flatten).length : Int)]), (putS 4 [f.ep]), (putS 8 [f.pl, f.gsn]), f.data ++ l.flatten].flatten)) := by rw [← hr60]; exact e19_
        have e61_13 : r59 13 = (.bool (!(rightS (Fr.mk f.ep f.pl f.gsn (f.data ++ l.flatten))))) := by rw [← hr60]; exact rfl
        refine t_norm (hK28 _ _ ?_)
        refine wp_ret ?_
        refine c_ret1 Tryd.results26  (v := (S (sealS [(putS 1 [((f.data ++ l.flatten).length : Int)]), (putS 4 [f.ep]), (putS 8 [f.pl, f.gsn]), f.data ++ l.flatten].flatten))) e61_4 ?_
        have hH62 : Has E w55 [R] := hH58.first 1 rfl
        exact ⟨by rw [makeS_yes hr, ← put_flat hr], hH62⟩
end Go.Q
