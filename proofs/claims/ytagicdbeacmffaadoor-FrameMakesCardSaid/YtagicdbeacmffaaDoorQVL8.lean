/-
  Parts of a walk: what functions of the program compute, each told by a theorem.
-/
import Derived.Test.YtagicdbeacmffaaDoorQV15
import Derived.Test.YtagicdbeacmffaaDoorQAF
set_option linter.unusedVariables false
set_option linter.unusedSimpArgs false
namespace Go.Q
open Go.Proofs
set_option linter.unusedVariables false
set_option maxRecDepth 100000
attribute [local irreducible] wpList OK Code.wp
set_option maxHeartbeats 4000000 in
theorem FrameMakes_c {E w : World} {R : List Hp} (hH : Has E w [R]) (hg : CellsAt R 0 0 nibV) (f : Fr) (hfl : f.data.length ≤ 9223372036854775807) {v : Value} {l : List (List UInt8)} (hv : Sl R 1 v l.length (l.map sV)) (hlb : ∀ x ∈ l, x.length ≤ 9223372036854775807) :
    Calls Tryd.prog 11 #[(.agg #[(.int .i64 f.ep), (.int .i64 f.pl), (.int .i64 f.gsn), (S f.data)]), v] w fun e w' => e = .returned (.bool true) ∧ Has E w' [R] := by
  have hn_ := hv.le
  refine c_enter (args := [(.agg #[(.int .i64 f.ep), (.int .i64 f.pl), (.int .i64 f.gsn), (S f.data)]), v]) Tryd.func11 rfl Tryd.ntmps11 (by simp) ?_
  refine wp_seq_k fun K1 hK1 => ?_
  refine c_region ?_
  refine s_op (o_box (cs := #[(.int .i64 f.ep), (.int .i64 f.pl), (.int .i64 f.gsn), (S f.data)]) rfl rfl hH fun b2 w3 hH4 => ?_)
  refine s_op (o_assign (v := (.bool false)) rfl ?_)
  refine s_nil ?_
  refine t_norm (hK1 _ _ ?_)
  refine wp_seq_k fun K5 hK5 => ?_
  refine wp_seq_k fun K6 hK6 => ?_
  refine c_region ?_
  refine s_op (o_move (v := v) rfl ?_)
  refine s_op (o_lenS Tryd.underlying22 rfl hv ?_)
  refine s_op (o_gtr (a := ((l.length : Nat) : Int)) (b := 10) rfl rfl ?_)
  refine s_op (o_move (v := (.bool (decide (10 < ((l.length : Nat) : Int))))) rfl ?_)
  by_cases h7 : 10 < ((l.length : Nat) : Int)
  · -- 10 < ((l.length : Nat) : Int)
    refine s_off (b' := true) 11 rfl (congrArg Value.bool (decide_eq_true h7)) rfl ?_
    refine s_off (b' := true) 11 rfl (congrArg Value.bool (decide_eq_true h7)) rfl ?_
    refine s_off (b' := true) 11 rfl (congrArg Value.bool (decide_eq_true h7)) rfl ?_
    refine s_off (b' := true) 11 rfl (congrArg Value.bool (decide_eq_true h7)) rfl ?_
    refine s_op (o_pick_t (u := (.bool true)) ((rfl : _ = _).trans (congrArg Value.bool (decide_eq_true h7))) rfl ?_)
    refine s_nil ?_
    refine t_norm (hK6 _ _ ?_)
    refine c_true rfl rfl ?_
    refine wp_seq_k fun K8 hK8 => ?_
    refine c_region ?_
    refine s_op (o_callf (vs := #[]) ca23 rfl (args0) (awake3_c hH4.all (hg.mono (seg_sub 1 rfl))) ?_)
    rintro _ w11 ⟨rfl, hX9⟩
    refine ⟨_, rfl, ?_⟩
    have hH10 := hX9.of_all
    refine s_op (o_assign (v := (.bool true)) rfl ?_)
    refine s_nil ?_
    refine t_norm (hK8 _ _ ?_)
    refine wp_ret ?_
    refine t_ret (c_ret1 Tryd.results11  (v := (.bool true)) rfl ?_)
    have hH12 : Has E w11 [R] := (hH10.front 1 rfl).first 1 rfl
    exact ⟨rfl, hH12⟩
  · -- not: 10 < ((l.length : Nat) : Int)
    refine s_on 11 rfl (congrArg Value.bool (decide_eq_false h7)) (o_fieldAddr (k := 3) (fun _ => by kernel_rfl) rfl ?_)
    refine s_on 11 rfl (congrArg Value.bool (decide_eq_false h7)) (o_load1 (v := (S f.data)) Tryd.underlying9 rfl rfl hH4 (seg_sub 0 rfl) (CellsAt.one rfl) ?_)
    refine s_on 11 rfl (congrArg Value.bool (decide_eq_false h7)) (o_slen Tryd.underlying9 rfl ?_)
    refine s_on 11 rfl (congrArg Value.bool (decide_eq_false h7)) (o_gtr (a := (f.data.length : Int)) (b := 1000) rfl rfl ?_)
    refine s_op (o_pick_f (u := (.bool (decide (1000 < (f.data.length : Int))))) ((rfl : _ = _).trans (congrArg Value.bool (decide_eq_false h7))) rfl ?_)
    refine s_nil ?_
    refine t_norm (hK6 _ _ ?_)
    refine c_cond rfl (fun h13 => ?_) (fun h13 => ?_)
    · -- 1000 < (f.data.length : Int)
      refine wp_seq_k fun K14 hK14 => ?_
      refine c_region ?_
      refine s_op (o_callf (vs := #[]) ca23 rfl (args0) (awake3_c hH4.all (hg.mono (seg_sub 1 rfl))) ?_)
      rintro _ w17 ⟨rfl, hX15⟩
      refine ⟨_, rfl, ?_⟩
      have hH16 := hX15.of_all
      refine s_op (o_assign (v := (.bool true)) rfl ?_)
      refine s_nil ?_
      refine t_norm (hK14 _ _ ?_)
      refine wp_ret ?_
      refine t_ret (c_ret1 Tryd.results11  (v := (.bool true)) rfl ?_)
      have hH18 : Has E w17 [R] := (hH16.front 1 rfl).first 1 rfl
      exact ⟨rfl, hH18⟩
    · -- not: 1000 < (f.data.length : Int)
      refine wp_skip ?_
      refine t_norm (hK5 _ _ ?_)
      refine wp_seq_k fun K19 hK19 => ?_
      refine c_region ?_
      refine s_op (o_loadN (cs := [(.int .i64 f.ep), (.int .i64 f.pl), (.int .i64 f.gsn), (S f.data)]) Tryd.underlying43 rfl ti43 rfl hH4 (seg_sub 0 rfl) (CellsAt.one rfl) ?_)
      refine s_op (o_alloc (cs := #[(.int .i64 0), (.int .i64 0), (.int .i64 0), (S ([] : List UInt8))]) ti43 rfl hH4 fun b20 w21 hH22 => ?_)
      refine s_eff (o_storeN (vs := [(.int .i64 f.ep), (.int .i64 f.pl), (.int .i64 f.gsn), (S f.data)]) (c' := #[(.int .i64 f.ep), (.int .i64 f.pl), (.int .i64 f.gsn), (S f.data)]) ti43 rfl rfl rfl rfl (by intro u hu; simp only [List.mem_cons, List.not_mem_nil, or_false] at hu; rcases hu with rfl | rfl | rfl | rfl <;> first | rfl) (by simp) (by kernel_rfl) (hH22.front 0 rfl) fun w23 hH24 => ?_)
      refine s_nil ?_
      refine t_norm (hK19 _ _ ?_)
      refine wp_seq_k fun K25 hK25 => ?_
      refine wp_seq_k fun K26 hK26 => ?_
      refine c_region ?_
      refine s_op (o_assign (v := (.int .i64 0)) rfl ?_)
      refine s_nil ?_
      refine t_norm (hK26 _ _ ?_)
      refine wp_block ?_
      let I28 : Nat → (Nat → Value) → World → Prop := fun n__ r__ w__ => ∃ (k : Nat) (dd : List UInt8), n__ = l.length - k ∧ Has E w__ [[Hp.one b20 (.cells #[(.int .i64 f.ep), (.int .i64 f.pl), (.int .i64 f.gsn), (S dd)] 43 (0, 0))], [Hp.one b2 (.cells #[(.int .i64 f.ep), (.int .i64 f.pl), (.int .i64 f.gsn), (S f.data)] 43 (0, 0))], R] ∧ (k ≤ l.length) ∧ (dd = f.data ++ (l.take k).flatten) ∧ (dd.length ≤ 1000 * (k + 1)) ∧ r__ 0 = (.agg #[(.int .i64 f.ep), (.int .i64 f.pl), (.int .i64 f.gsn), (S f.data)]) ∧ r__ 1 = v ∧ r__ 2 = (.pointer (some ⟨b2, 0, none⟩)) ∧ r__ 5 = (.pointer (some ⟨b20, 0, none⟩)) ∧ r__ 6 = (.int .i64 (k : Int)) ∧ r__ 16 = (.bool (decide (1000 < (f.data.length : Int))))
      refine c_loop I28 _ ⟨0, f.data, rfl, hH24, Nat.zero_le _, (by simp), (by omega), rfl, rfl, rfl, rfl, rfl, rfl⟩ ?_
      rintro n_ r31 w29 ⟨k, dd, rfl, hH30, hk, hdd, hdl, e27_0, e27_1, e27_2, e27_5, e27_6, e27_16⟩
      refine wp_seq_k fun K32 hK32 => ?_
      refine wp_seq_k fun K33 hK33 => ?_
      refine c_region ?_
      refine s_op (o_move (v := (.int .i64 (k : Int))) e27_6 ?_)
      refine s_op (o_move (v := v) e27_1 ?_)
      refine s_op (o_lenS Tryd.underlying22 rfl hv ?_)
      refine s_op (o_lss (a := (k : Int)) (b := ((l.length : Nat) : Int)) rfl rfl ?_)
      refine s_nil ?_
      refine t_norm (hK33 _ _ ?_)
      refine c_cond rfl (fun h34 => ?_) (fun h34 => ?_)
      · -- (k : Int) < ((l.length : Nat) : Int)
        refine wp_skip ?_
        refine t_norm (hK32 _ _ ?_)
        refine wp_seq_k fun K35 hK35 => ?_
        refine wp_block ?_
        refine wp_seq_k fun K36 hK36 => ?_
        refine wp_seq_k fun K37 hK37 => ?_
        refine c_region ?_
        refine s_op (o_move (v := v) e27_1 ?_)
        refine s_op (o_move (v := (.int .i64 (k : Int))) e27_6 ?_)
        obtain ⟨x41, hx42⟩ : ∃ x_, l[((k : Int)).toNat]? = some x_ := get_some (by omega)
        refine s_op (o_index1 Tryd.underlying22 ti9 rfl hv rfl (by omega) hx42 fun b38 o39 hc40 => ?_)
        refine s_op (o_load1 (v := (S x41)) Tryd.underlying9 rfl rfl hH30 (seg_sub 2 rfl) hc40 ?_)
        refine s_op (o_slen Tryd.underlying9 rfl ?_)
        refine s_op (o_gtr (a := (x41.length : Int)) (b := 1000) rfl rfl ?_)
        refine s_nil ?_
        refine t_norm (hK37 _ _ ?_)
        refine c_cond rfl (fun h43 => ?_) (fun h43 => ?_)
        · -- 1000 < (x41.length : Int)
          refine wp_seq_k fun K44 hK44 => ?_
          refine c_region ?_
          refine s_op (o_callf (vs := #[]) ca23 rfl (args0) (awake3_c hH30.all (hg.mono (seg_sub 2 rfl))) ?_)
          rintro _ w47 ⟨rfl, hX45⟩
          refine ⟨_, rfl, ?_⟩
          have hH46 := hX45.of_all
          refine s_op (o_assign (v := (.bool true)) rfl ?_)
          refine s_nil ?_
          refine t_norm (hK44 _ _ ?_)
          refine wp_ret ?_
          refine t_ret (b_ret (t_ret (t_ret (b_ret (t_ret (c_ret1 Tryd.results11  (v := (.bool true)) rfl ?_))))))
          have hH48 : Has E w47 [R] := (hH46.front 2 rfl).first 1 rfl
          exact ⟨rfl, hH48⟩
        · -- not: 1000 < (x41.length : Int)
          refine wp_skip ?_
          refine t_norm (hK36 _ _ ?_)
          have hH54 : Has E w29 [[Hp.one b2 (.cells #[(.int .i64 f.ep), (.int .i64 f.pl), (.int .i64 f.gsn), (S f.data)] 43 (0, 0))], R, [Hp.one b20 (.cells #[(.int .i64 f.ep), (.int .i64 f.pl), (.int .i64 f.gsn), (S dd)] 43 (0, 0))]] := ((hH30.front 2 rfl).front 2 rfl).first 3 rfl
          refine c_flow [[Hp.one b2 (.cells #[(.int .i64 f.ep), (.int .i64 f.pl), (.int .i64 f.gsn), (S f.data)] 43 (0, 0))], R] (fun i_ => match i_ with | 8 => [Hp.one b20 (.cells #[(.int .i64 f.ep), (.int .i64 f.pl), (.int .i64 f.gsn), (S dd)] 43 (0, 0))] | _ => []) (fun i_ v_ h_ => match i_ with | 0 => v_ = (.pointer (some ⟨b20, 3, none⟩)) ∧ h_ = [] | 1 => v_ = (S dd) ∧ h_ = [] | 2 => v_ = v ∧ h_ = [] | 3 => v_ = (.int .i64 (k : Int)) ∧ h_ = [] | 4 => ∃ (b49 : Nat) (o50 : Nat), v_ = (.pointer (some ⟨b49, o50, none⟩)) ∧ h_ = [] ∧ (CellsAt R b49 o50 [(S x41)]) | 5 => v_ = (S x41) ∧ h_ = [] | 6 => v_ = (S (dd ++ x41)) ∧ h_ = [] | 7 => v_ = (.pointer (some ⟨b20, 3, none⟩)) ∧ h_ = [] | 8 => v_ = undef ∧ h_ = [Hp.one b20 (.cells #[(.int .i64 f.ep), (.int .i64 f.pl), (.int .i64 f.gsn), (S (dd ++ x41))] 43 (0, 0))] | _ => True) mixed (by kernel_rfl) (flow_has (cs := [[Hp.one b20 (.cells #[(.int .i64 f.ep), (.int .i64 f.pl), (.int .i64 f.gsn), (S dd)] 43 (0, 0))]]) hH54 rfl) ?_ ?_
          · intro i_ o_ ho_ r' w' G hs_ ht
            match i_, ho_ with
            | 0, ho_ =>
              obtain rfl := Option.some.inj ho_
              have e5 : r' 5 = (.pointer (some ⟨b20, 0, none⟩)) := (ht.was 5 (by kernel_rfl)).trans e27_5
              have hG := ht.has.drop
              refine o_fieldAddr (k := 3) (fun _ => by kernel_rfl) e5 ?_
              exact ⟨_, ⟨rfl, rfl⟩, hG⟩
            | 1, ho_ =>
              obtain rfl := Option.some.inj ho_
              obtain ⟨e32, eh0⟩ := (ht.done 0 _ rfl rfl).1
              have hG := ht.has.drop
              refine o_load1 (v := (S dd)) Tryd.underlying9 rfl e32 hG (ht.todo 8 rfl) (CellsAt.one rfl) ?_
              exact ⟨_, ⟨rfl, rfl⟩, hG⟩
            | 2, ho_ =>
              obtain rfl := Option.some.inj ho_
              have e1 : r' 1 = v := (ht.was 1 (by kernel_rfl)).trans e27_1
              have hG := ht.has.drop
              refine o_move (v := v) e1 ?_
              exact ⟨_, ⟨rfl, rfl⟩, hG⟩
            | 3, ho_ =>
              obtain rfl := Option.some.inj ho_
              have e6 : r' 6 = (.int .i64 (k : Int)) := (ht.was 6 (by kernel_rfl)).trans e27_6
              have hG := ht.has.drop
              refine o_move (v := (.int .i64 (k : Int))) e6 ?_
              exact ⟨_, ⟨rfl, rfl⟩, hG⟩
            | 4, ho_ =>
              obtain rfl := Option.some.inj ho_
              obtain ⟨e34, eh2⟩ := (ht.done 2 _ rfl rfl).1
              obtain ⟨e35, eh3⟩ := (ht.done 3 _ rfl rfl).1
              have hG := ht.has.drop
              refine o_index1 Tryd.underlying22 ti9 e34 hv e35 (by omega) hx42 fun b49 o50 hc51 => ?_
              exact ⟨_, ⟨b49, o50, rfl, rfl, hc51⟩, hG⟩
            | 5, ho_ =>
              obtain rfl := Option.some.inj ho_
              obtain ⟨b49, o50, e36, eh4, hc51⟩ := (ht.done 4 _ rfl rfl).1
              have hG := ht.has.drop
              refine o_load1 (v := (S x41)) Tryd.underlying9 rfl e36 hG (ht.fr R (by simp)) hc51 ?_
              exact ⟨_, ⟨rfl, rfl⟩, hG⟩
            | 6, ho_ =>
              obtain rfl := Option.some.inj ho_
              obtain ⟨e33, eh1⟩ := (ht.done 1 _ rfl rfl).1
              obtain ⟨b49, o50, e36, eh4, hc51⟩ := (ht.done 4 _ rfl rfl).1
              obtain ⟨e37, eh5⟩ := (ht.done 5 _ rfl rfl).1
              have hG := ht.has.drop
              refine o_sadd e33 e37 (by omega) ?_
              exact ⟨_, ⟨rfl, rfl⟩, hG⟩
            | 7, ho_ =>
              obtain rfl := Option.some.inj ho_
              obtain ⟨b49, o50, e36, eh4, hc51⟩ := (ht.done 4 _ rfl rfl).1
              have e5 : r' 5 = (.pointer (some ⟨b20, 0, none⟩)) := (ht.was 5 (by kernel_rfl)).trans e27_5
              have hG := ht.has.drop
              refine o_fieldAddr (k := 3) (fun _ => by kernel_rfl) e5 ?_
              exact ⟨_, ⟨rfl, rfl⟩, hG⟩
            | 8, ho_ =>
              obtain rfl := Option.some.inj ho_
              obtain ⟨b49, o50, e36, eh4, hc51⟩ := (ht.done 4 _ rfl rfl).1
              obtain ⟨e38, eh6⟩ := (ht.done 6 _ rfl rfl).1
              obtain ⟨e39, eh7⟩ := (ht.done 7 _ rfl rfl).1
              have hG := ht.has
              refine o_store1 (c' := #[(.int .i64 f.ep), (.int .i64 f.pl), (.int .i64 f.gsn), (S (dd ++ x41))]) ti9 e39 e38 rfl (by simp) rfl (hG.front 0 rfl) fun w52 hH53 => ?_
              exact ⟨_, ⟨rfl, rfl⟩, hH53⟩
            | i_ + 9, ho_ => exact absurd ho_ (by simp)
          · intro vs54 hs55 w56 hT57 hH58
            obtain ⟨e0_, eh0_⟩ := hT57 0 _ rfl
            obtain ⟨e1_, eh1_⟩ := hT57 1 _ rfl
            obtain ⟨e2_, eh2_⟩ := hT57 2 _ rfl
            obtain ⟨e3_, eh3_⟩ := hT57 3 _ rfl
            obtain ⟨b49, o50, e4_, eh4_, hc51⟩ := hT57 4 _ rfl
            obtain ⟨e5_, eh5_⟩ := hT57 5 _ rfl
            obtain ⟨e6_, eh6_⟩ := hT57 6 _ rfl
            obtain ⟨e7_, eh7_⟩ := hT57 7 _ rfl
            obtain ⟨e8_, eh8_⟩ := hT57 8 _ rfl
            have hH59 : Has E w56 ([[Hp.one b2 (.cells #[(.int .i64 f.ep), (.int .i64 f.pl), (.int .i64 f.gsn), (S f.data)] 43 (0, 0))], R] ++ [[Hp.one b20 (.cells #[(.int .i64 f.ep), (.int .i64 f.pl), (.int .i64 f.gsn), (S (dd ++ x41))] 43 (0, 0))]]) := flow_back (cs := [[Hp.one b20 (.cells #[(.int .i64 f.ep), (.int .i64 f.pl), (.int .i64 f.gsn), (S (dd ++ x41))] 43 (0, 0))]]) hH58 (by show (hs55 0 ++ (hs55 1 ++ (hs55 2 ++ (hs55 3 ++ (hs55 4 ++ (hs55 5 ++ (hs55 6 ++ (hs55 7 ++ (hs55 8 ++ []))))))))) = _; rw [eh0_, eh1_, eh2_, eh3_, eh4_, eh5_, eh6_, eh7_, eh8_]; rfl)
            generalize hr61 : puts vs54 _ 0 _ = r60
            have e62_0 : r60 0 = (.agg #[(.int .i64 f.ep), (.int .i64 f.pl), (.int .i64 f.gsn), (S f.data)]) := by rw [← hr61]; exact e27_0
            have e62_1 : r60 1 = v := by rw [← hr61]; exact e27_1
            have e62_2 : r60 2 = (.pointer (some ⟨b2, 0, none⟩)) := by rw [← hr61]; exact e27_2
            have e62_5 : r60 5 = (.pointer (some ⟨b20, 0, none⟩)) := by rw [← hr61]; exact e27_5
            have e62_6 : r60 6 = (.int .i64 (k : Int)) := by rw [← hr61]; exact e27_6
            have e62_16 : r60 16 = (.bool (decide (1000 < (f.data.length : Int)))) := by rw [← hr61]; exact e27_16
            have e62_22 : r60 22 = (.bool (decide ((k : Int) < ((l.length : Nat) : Int)))) := by rw [← hr61]; exact rfl
            have e62_30 : r60 30 = (.bool (decide (1000 < (x41.length : Int)))) := by rw [← hr61]; exact rfl
            refine b_norm ?_
            refine t_norm (hK35 _ _ ?_)
            refine c_region ?_
            refine s_op (o_move (v := (.int .i64 (k : Int))) e62_6 ?_)
            refine s_op (o_add (a := (k : Int)) (b := 1) rfl rfl (w64 (by omega) (by omega)) ?_)
            refine s_op (o_assign (v := (.int .i64 ((k : Int) + 1))) rfl ?_)
            refine s_nil ?_
            have hH63 : Has E w56 [[Hp.one b20 (.cells #[(.int .i64 f.ep), (.int .i64 f.pl), (.int .i64 f.gsn), (S (dd ++ x41))] 43 (0, 0))], [Hp.one b2 (.cells #[(.int .i64 f.ep), (.int .i64 f.pl), (.int .i64 f.gsn), (S f.data)] 43 (0, 0))], R] := (((hH59.front 1 rfl).front 1 rfl).front 2 rfl).first 3 rfl
            refine t_norm ⟨l.length - (k + 1), _, rfl, ?_, ?_⟩
            · omega
            · exact ⟨(k + 1), (dd ++ x41), rfl, hH63, (by omega), (by rw [take_succ_of (show l[k]? = some _ from hx42), List.flatten_append, hdd]; simp), (by simp only [List.length_append]; omega), e62_0, e62_1, e62_2, e62_5, rfl, e62_16⟩
      · -- not: (k : Int) < ((l.length : Nat) : Int)
        have e : k = l.length := by omega
        rw [e, List.take_length] at hdd
        have hfl : dd.length = f.data.length + l.flatten.length := by rw [hdd, List.length_append]
        refine wp_exit ?_
        refine t_exit (t_exit (x_in (?_)))
        refine t_norm (hK25 _ _ ?_)
        refine wp_seq_k fun K64 hK64 => ?_
        refine c_region ?_
        refine s_op (o_assign (v := (S ([] : List UInt8))) rfl ?_)
        refine s_nil ?_
        refine t_norm (hK64 _ _ ?_)
        refine wp_seq_k fun K65 hK65 => ?_
        refine wp_seq_k fun K66 hK66 => ?_
        refine c_region ?_
        refine s_op (o_loadN (cs := [(.int .i64 f.ep), (.int .i64 f.pl), (.int .i64 f.gsn), (S dd)]) Tryd.underlying43 rfl ti43 e27_5 hH30 (seg_sub 0 rfl) (CellsAt.one rfl) ?_)
        refine s_op (o_callf (vs := #[(.agg #[(.int .i64 f.ep), (.int .i64 f.pl), (.int .i64 f.gsn), (S dd)])]) ca27 rfl (args1 rfl) (refright_c hH30.all (Fr.mk f.ep f.pl f.gsn dd) (by first | omega | (dsimp only; omega))) ?_)
        rintro _ w69 ⟨rfl, hX67⟩
        refine ⟨_, rfl, ?_⟩
        have hH68 := hX67.of_all
        refine s_nil ?_
        refine t_norm (hK66 _ _ ?_)
        refine c_condb rfl (fun h70 => ?_) (fun h70 => ?_)
        · -- (rightS (Fr.mk f.ep f.pl f.gsn dd))
          refine c_region ?_
          refine s_op (o_loadN (cs := [(.int .i64 f.ep), (.int .i64 f.pl), (.int .i64 f.gsn), (S dd)]) Tryd.underlying43 rfl ti43 e27_5 hH68 (seg_sub 0 rfl) (CellsAt.one rfl) ?_)
          refine s_op (o_callf (vs := #[(.agg #[(.int .i64 f.ep), (.int .i64 f.pl), (.int .i64 f.gsn), (S dd)])]) ca34 rfl (args1 rfl) (refmake_c hH68.all (Fr.mk f.ep f.pl f.gsn dd) (by first | omega | (dsimp only; omega)) h70) ?_)
          rintro _ w73 ⟨rfl, hX71⟩
          refine ⟨_, rfl, ?_⟩
          have hH72 := hX71.of_all
          refine s_op (o_assign (v := (S (makeS (Fr.mk f.ep f.pl f.gsn dd)))) rfl ?_)
          refine s_nil ?_
          refine t_norm (hK65 _ _ ?_)
          refine wp_seq_k fun K74 hK74 => ?_
          by_cases h75 : (makeS (Fr.mk f.ep f.pl f.gsn (f.data ++ l.flatten))) = (makeS (Fr.mk f.ep f.pl f.gsn dd))
          · -- (makeS (Fr.mk f.ep f.pl f.gsn (f.data ++ l.flatten))) = (makeS (Fr.mk f.ep f.pl f.gsn dd))
            by_cases h76 : 25 + (([f.data] ++ l).flatten.length : Int) = 25 + (dd.length : Int)
            · -- 25 + (([f.data] ++ l).flatten.length : Int) = 25 + (dd.length : Int)
              refine c_flow3 [[Hp.one b20 (.cells #[(.int .i64 f.ep), (.int .i64 f.pl), (.int .i64 f.gsn), (S dd)] 43 (0, 0))], [Hp.one b2 (.cells #[(.int .i64 f.ep), (.int .i64 f.pl), (.int .i64 f.gsn), (S f.data)] 43 (0, 0))], R] (fun i_ => match i_ with | _ => []) (fun i_ v_ h_ m_ => match i_ with | 0 => v_ = (.agg #[(.int .i64 f.ep), (.int .i64 f.pl), (.int .i64 f.gsn), (S f.data)]) ∧ h_ = [] | 1 => v_ = v ∧ h_ = [] | 2 => v_ = (S (makeS (Fr.mk f.ep f.pl f.gsn (f.data ++ l.flatten)))) ∧ h_ = [] | 3 => v_ = (S (makeS (Fr.mk f.ep f.pl f.gsn dd))) ∧ h_ = [] | 4 => v_ = (.bool (decide ((makeS (Fr.mk f.ep f.pl f.gsn (f.data ++ l.flatten))) = (makeS (Fr.mk f.ep f.pl f.gsn dd))))) ∧ h_ = [] | 5 => v_ = (.bool (decide ((makeS (Fr.mk f.ep f.pl f.gsn (f.data ++ l.flatten))) = (makeS (Fr.mk f.ep f.pl f.gsn dd))))) ∧ h_ = [] | 6 => v_ = (.pointer (some ⟨b2, 3, none⟩)) ∧ h_ = [] | 7 => v_ = (S f.data) ∧ h_ = [] | 8 => ∃ (b80 : Nat), v_ = (.slice (some ⟨b80, 0, none⟩) 1 1) ∧ h_ = [Hp.one b80 (.cells #[(S f.data)] 9 (0, 0))] | 9 => v_ = v ∧ h_ = [] | 10 => ∃ (b80 : Nat) (v83 : Value) (s84 : List Hp), m_ 8 = (.slice (some ⟨b80, 0, none⟩) 1 1) ∧ v_ = v83 ∧ h_ = s84 ∧ (Sl ([Hp.one b80 (.cells #[(S f.data)] 9 (0, 0))] ++ s84) 1 v83 ([f.data] ++ l).length (([f.data] ++ l).map sV)) | 11 => v_ = (.int .i64 (25 + (([f.data] ++ l).flatten.length : Int))) ∧ h_ = [] | 12 => v_ = (.pointer (some ⟨b20, 3, none⟩)) ∧ h_ = [] | 13 => v_ = (S dd) ∧ h_ = [] | 14 => v_ = (.int .i64 (dd.length : Int)) ∧ h_ = [] | 15 => v_ = (.int .i64 (25 + (dd.length : Int))) ∧ h_ = [] | 16 => v_ = (.bool (decide (25 + (([f.data] ++ l).flatten.length : Int) = 25 + (dd.length : Int)))) ∧ h_ = [] | 17 => v_ = (.bool (decide (25 + (([f.data] ++ l).flatten.length : Int) = 25 + (dd.length : Int)))) ∧ h_ = [] | 18 => v_ = (.bool (decide (25 + (([f.data] ++ l).flatten.length : Int) = 25 + (dd.length : Int)))) ∧ h_ = [] | 19 => v_ = (.bool true) ∧ h_ = [] | 20 => v_ = (.bool true) ∧ h_ = [] | 21 => v_ = (.bool true) ∧ h_ = [] | _ => True) mixed (by kernel_rfl) (flow_has (cs := []) hH72 rfl) ?_ ?_
              · intro i_ o_ ho_ r' w' G hs_ ht
                match i_, ho_ with
                | 0, ho_ =>
                  obtain rfl := Option.some.inj ho_
                  have e2 : r' 2 = (.pointer (some ⟨b2, 0, none⟩)) := (ht.was 2 (by kernel_rfl)).trans e27_2
                  have hG := ht.has.drop
                  refine GOK.free rfl ?_
                  refine o_loadN (cs := [(.int .i64 f.ep), (.int .i64 f.pl), (.int .i64 f.gsn), (S f.data)]) Tryd.underlying43 rfl ti43 e2 hG (ht.fr [Hp.one b2 (.cells #[(.int .i64 f.ep), (.int .i64 f.pl), (.int .i64 f.gsn), (S f.data)] 43 (0, 0))] (by simp)) (CellsAt.one rfl) ?_
                  exact ⟨_, ⟨rfl, rfl⟩, hG⟩
                | 1, ho_ =>
                  obtain rfl := Option.some.inj ho_
                  have e1 : r' 1 = v := (ht.was 1 (by kernel_rfl)).trans e27_1
                  have hG := ht.has.drop
                  refine GOK.free rfl ?_
                  refine o_move (v := v) e1 ?_
                  exact ⟨_, ⟨rfl, rfl⟩, hG⟩
                | 2, ho_ =>
                  obtain rfl := Option.some.inj ho_
                  obtain ⟨e44, eh0⟩ := (ht.done 0 _ rfl rfl).1
                  obtain ⟨e45, eh1⟩ := (ht.done 1 _ rfl rfl).1
                  have hG := ht.has.drop
                  refine GOK.free rfl ?_
                  refine o_callf (vs := #[(.agg #[(.int .i64 f.ep), (.int .i64 f.pl), (.int .i64 f.gsn), (S f.data)]), v]) ca26 rfl (args2 e44 e45) (make_c hG.all (hg.mono (ht.fr R (by simp))) f (by first | omega | (dsimp only; omega)) (l := l) (hv.mono (ht.fr R (by simp))) (by omega) (by omega) (by omega)) ?_
                  rintro _ w79 ⟨rfl, hX77⟩
                  refine ⟨_, rfl, ?_⟩
                  have hH78 := hX77.of_all
                  exact ⟨_, ⟨rfl, rfl⟩, hH78⟩
                | 3, ho_ =>
                  obtain rfl := Option.some.inj ho_
                  have e7 : r' 7 = (S (makeS (Fr.mk f.ep f.pl f.gsn dd))) := ht.was 7 (by kernel_rfl)
                  have hG := ht.has.drop
                  refine GOK.free rfl ?_
                  refine o_move (v := (S (makeS (Fr.mk f.ep f.pl f.gsn dd)))) e7 ?_
                  exact ⟨_, ⟨rfl, rfl⟩, hG⟩
                | 4, ho_ =>
                  obtain rfl := Option.some.inj ho_
                  obtain ⟨e46, eh2⟩ := (ht.done 2 _ rfl rfl).1
                  obtain ⟨e47, eh3⟩ := (ht.done 3 _ rfl rfl).1
                  have hG := ht.has.drop
                  refine GOK.free rfl ?_
                  refine o_seql (a := (makeS (Fr.mk f.ep f.pl f.gsn (f.data ++ l.flatten)))) (b := (makeS (Fr.mk f.ep f.pl f.gsn dd))) e46 e47 ?_
                  exact ⟨_, ⟨rfl, rfl⟩, hG⟩
                | 5, ho_ =>
                  obtain rfl := Option.some.inj ho_
                  obtain ⟨e48, eh4⟩ := (ht.done 4 _ rfl rfl).1
                  have hG := ht.has.drop
                  refine GOK.free rfl ?_
                  refine o_move (v := (.bool (decide ((makeS (Fr.mk f.ep f.pl f.gsn (f.data ++ l.flatten))) = (makeS (Fr.mk f.ep f.pl f.gsn dd)))))) e48 ?_
                  exact ⟨_, ⟨rfl, rfl⟩, hG⟩
                | 6, ho_ =>
                  obtain rfl := Option.some.inj ho_
                  obtain ⟨e49, eh5⟩ := (ht.done 5 _ rfl rfl).1
                  have e2 : r' 2 = (.pointer (some ⟨b2, 0, none⟩)) := (ht.was 2 (by kernel_rfl)).trans e27_2
                  have hG := ht.has.drop
                  refine GOK.on rfl rfl (Eq.trans e49 (congrArg Value.bool (decide_eq_true h75))) ?_
                  refine o_fieldAddr (k := 3) (fun _ => by kernel_rfl) e2 ?_
                  exact ⟨_, ⟨rfl, rfl⟩, hG⟩
                | 7, ho_ =>
                  obtain rfl := Option.some.inj ho_
                  obtain ⟨e49, eh5⟩ := (ht.done 5 _ rfl rfl).1
                  obtain ⟨e50, eh6⟩ := (ht.done 6 _ rfl rfl).1
                  have hG := ht.has.drop
                  refine GOK.on rfl rfl (Eq.trans e49 (congrArg Value.bool (decide_eq_true h75))) ?_
                  refine o_load1 (v := (S f.data)) Tryd.underlying9 rfl e50 hG (ht.fr [Hp.one b2 (.cells #[(.int .i64 f.ep), (.int .i64 f.pl), (.int .i64 f.gsn), (S f.data)] 43 (0, 0))] (by simp)) (CellsAt.one rfl) ?_
                  exact ⟨_, ⟨rfl, rfl⟩, hG⟩
                | 8, ho_ =>
                  obtain rfl := Option.some.inj ho_
                  obtain ⟨e49, eh5⟩ := (ht.done 5 _ rfl rfl).1
                  obtain ⟨e51, eh7⟩ := (ht.done 7 _ rfl rfl).1
                  have hG := ht.has.drop
                  refine GOK.on rfl rfl (Eq.trans e49 (congrArg Value.bool (decide_eq_true h75))) ?_
                  refine o_buildSlice (ps := #[(0, (S f.data))]) (cells := #[(S f.data)]) Tryd.underlying22 ti9 (by decide) (parts1 e51) (by kernel_rfl) hG fun b80 w81 hH82 => ?_
                  exact ⟨_, ⟨b80, rfl, rfl⟩, hH82⟩
                | 9, ho_ =>
                  obtain rfl := Option.some.inj ho_
                  obtain ⟨e49, eh5⟩ := (ht.done 5 _ rfl rfl).1
                  have e1 : r' 1 = v := (ht.was 1 (by kernel_rfl)).trans e27_1
                  have hG := ht.has.drop
                  refine GOK.on rfl rfl (Eq.trans e49 (congrArg Value.bool (decide_eq_true h75))) ?_
                  refine o_move (v := v) e1 ?_
                  exact ⟨_, ⟨rfl, rfl⟩, hG⟩
                | 10, ho_ =>
                  obtain rfl := Option.some.inj ho_
                  obtain ⟨e49, eh5⟩ := (ht.done 5 _ rfl rfl).1
                  obtain ⟨b80, e52, eh8⟩ := (ht.done 8 _ rfl rfl).1
                  obtain ⟨e53, eh9⟩ := (ht.done 9 _ rfl rfl).1
                  have hG := ht.has.drop
                  refine GOK.on rfl rfl (Eq.trans e49 (congrArg Value.bool (decide_eq_true h75))) ?_
                  refine o_append_full Tryd.underlying22 ti9 rfl (by decide) e52 (by decide) (sl_lit (f := sV) (l := [f.data]) rfl rfl (by simp)) e53 hv hG (eh8 ▸ (ht.done 8 _ rfl rfl).2) (ht.fr R (by simp)) (by first | omega | (simp; omega)) (by first | omega | (simp; omega)) fun v83 s84 w87 ho85 hH88 => ?_
                  have ho86 : Sl ([Hp.one b80 (.cells #[(S f.data)] 9 (0, 0))] ++ s84) 1 v83 ([f.data] ++ l).length (([f.data] ++ l).map sV) := by rw [List.length_append, List.map_append]; exact ho85
                  exact ⟨_, ⟨b80, v83, s84, e52, rfl, rfl, ho86⟩, hH88⟩
                | 11, ho_ =>
                  obtain rfl := Option.some.inj ho_
                  obtain ⟨e49, eh5⟩ := (ht.done 5 _ rfl rfl).1
                  obtain ⟨b80, e52, eh8⟩ := (ht.done 8 _ rfl rfl).1
                  obtain ⟨b80_10, v83, s84, q10_8, e54, eh10, ho86⟩ := (ht.done 10 _ rfl rfl).1
                  have z_ : b80 = b80_10 := by have z0_ := Eq.trans (Eq.symm e52) q10_8; simpa using z0_
                  subst z_
                  have hG := ht.has.drop
                  refine GOK.on rfl rfl (Eq.trans e49 (congrArg Value.bool (decide_eq_true h75))) ?_
                  refine o_callf (vs := #[v83]) ca35 rfl (args1 e54) (size_c hG.all (l := ([f.data] ++ l)) (ho86.mono (app_sub (eh8 ▸ (ht.done 8 _ rfl rfl).2) (eh10 ▸ (ht.done 10 _ rfl rfl).2))) (by simp only [List.length_append, List.length_cons, List.length_nil]; omega) (by simp only [List.flatten_append, List.flatten_cons, List.flatten_nil, List.append_nil, List.length_append]; omega)) ?_
                  rintro _ w91 ⟨rfl, hX89⟩
                  refine ⟨_, rfl, ?_⟩
                  have hH90 := hX89.of_all
                  exact ⟨_, ⟨rfl, rfl⟩, hH90⟩
                | 12, ho_ =>
                  obtain rfl := Option.some.inj ho_
                  obtain ⟨e49, eh5⟩ := (ht.done 5 _ rfl rfl).1
                  have e5 : r' 5 = (.pointer (some ⟨b20, 0, none⟩)) := (ht.was 5 (by kernel_rfl)).trans e27_5
                  have hG := ht.has.drop
                  refine GOK.on rfl rfl (Eq.trans e49 (congrArg Value.bool (decide_eq_true h75))) ?_
                  refine o_fieldAddr (k := 3) (fun _ => by kernel_rfl) e5 ?_
                  exact ⟨_, ⟨rfl, rfl⟩, hG⟩
                | 13, ho_ =>
                  obtain rfl := Option.some.inj ho_
                  obtain ⟨e49, eh5⟩ := (ht.done 5 _ rfl rfl).1
                  obtain ⟨e56, eh12⟩ := (ht.done 12 _ rfl rfl).1
                  have hG := ht.has.drop
                  refine GOK.on rfl rfl (Eq.trans e49 (congrArg Value.bool (decide_eq_true h75))) ?_
                  refine o_load1 (v := (S dd)) Tryd.underlying9 rfl e56 hG (ht.fr [Hp.one b20 (.cells #[(.int .i64 f.ep), (.int .i64 f.pl), (.int .i64 f.gsn), (S dd)] 43 (0, 0))] (by simp)) (CellsAt.one rfl) ?_
                  exact ⟨_, ⟨rfl, rfl⟩, hG⟩
                | 14, ho_ =>
                  obtain rfl := Option.some.inj ho_
                  obtain ⟨e49, eh5⟩ := (ht.done 5 _ rfl rfl).1
                  obtain ⟨e57, eh13⟩ := (ht.done 13 _ rfl rfl).1
                  have hG := ht.has.drop
                  refine GOK.on rfl rfl (Eq.trans e49 (congrArg Value.bool (decide_eq_true h75))) ?_
                  refine o_slen Tryd.underlying9 e57 ?_
                  exact ⟨_, ⟨rfl, rfl⟩, hG⟩
                | 15, ho_ =>
                  obtain rfl := Option.some.inj ho_
                  obtain ⟨e49, eh5⟩ := (ht.done 5 _ rfl rfl).1
                  obtain ⟨e58, eh14⟩ := (ht.done 14 _ rfl rfl).1
                  have hG := ht.has.drop
                  refine GOK.on rfl rfl (Eq.trans e49 (congrArg Value.bool (decide_eq_true h75))) ?_
                  refine o_add (a := 25) (b := (dd.length : Int)) rfl e58 (w64 (by omega) (by omega)) ?_
                  exact ⟨_, ⟨rfl, rfl⟩, hG⟩
                | 16, ho_ =>
                  obtain rfl := Option.some.inj ho_
                  obtain ⟨e49, eh5⟩ := (ht.done 5 _ rfl rfl).1
                  obtain ⟨b80, e52, eh8⟩ := (ht.done 8 _ rfl rfl).1
                  obtain ⟨b80_10, v83, s84, q10_8, e54, eh10, ho86⟩ := (ht.done 10 _ rfl rfl).1
                  have z_ : b80 = b80_10 := by have z0_ := Eq.trans (Eq.symm e52) q10_8; simpa using z0_
                  subst z_
                  obtain ⟨e55, eh11⟩ := (ht.done 11 _ rfl rfl).1
                  obtain ⟨e59, eh15⟩ := (ht.done 15 _ rfl rfl).1
                  have hG := ht.has.drop
                  refine GOK.on rfl rfl (Eq.trans e49 (congrArg Value.bool (decide_eq_true h75))) ?_
                  refine o_eql (a := 25 + (([f.data] ++ l).flatten.length : Int)) (b := 25 + (dd.length : Int)) e55 e59 ?_
                  exact ⟨_, ⟨rfl, rfl⟩, hG⟩
                | 17, ho_ =>
                  obtain rfl := Option.some.inj ho_
                  obtain ⟨e49, eh5⟩ := (ht.done 5 _ rfl rfl).1
                  obtain ⟨b80, e52, eh8⟩ := (ht.done 8 _ rfl rfl).1
                  obtain ⟨b80_10, v83, s84, q10_8, e54, eh10, ho86⟩ := (ht.done 10 _ rfl rfl).1
                  have z_ : b80 = b80_10 := by have z0_ := Eq.trans (Eq.symm e52) q10_8; simpa using z0_
                  subst z_
                  obtain ⟨e60, eh16⟩ := (ht.done 16 _ rfl rfl).1
                  have hG := ht.has.drop
                  refine GOK.free rfl ?_
                  refine o_pick_t (u := (.bool (decide (25 + (([f.data] ++ l).flatten.length : Int) = 25 + (dd.length : Int))))) ((e49 : _ = _).trans (congrArg Value.bool (decide_eq_true h75))) e60 ?_
                  exact ⟨_, ⟨rfl, rfl⟩, hG⟩
                | 18, ho_ =>
                  obtain rfl := Option.some.inj ho_
                  obtain ⟨b80, e52, eh8⟩ := (ht.done 8 _ rfl rfl).1
                  obtain ⟨b80_10, v83, s84, q10_8, e54, eh10, ho86⟩ := (ht.done 10 _ rfl rfl).1
                  have z_ : b80 = b80_10 := by have z0_ := Eq.trans (Eq.symm e52) q10_8; simpa using z0_
                  subst z_
                  obtain ⟨e61, eh17⟩ := (ht.done 17 _ rfl rfl).1
                  have hG := ht.has.drop
                  refine GOK.free rfl ?_
                  refine o_move (v := (.bool (decide (25 + (([f.data] ++ l).flatten.length : Int) = 25 + (dd.length : Int))))) e61 ?_
                  exact ⟨_, ⟨rfl, rfl⟩, hG⟩
                | 19, ho_ =>
                  obtain rfl := Option.some.inj ho_
                  obtain ⟨b80, e52, eh8⟩ := (ht.done 8 _ rfl rfl).1
                  obtain ⟨b80_10, v83, s84, q10_8, e54, eh10, ho86⟩ := (ht.done 10 _ rfl rfl).1
                  have z_ : b80 = b80_10 := by have z0_ := Eq.trans (Eq.symm e52) q10_8; simpa using z0_
                  subst z_
                  obtain ⟨e62, eh18⟩ := (ht.done 18 _ rfl rfl).1
                  have hG := ht.has.drop
                  refine GOK.on rfl rfl (Eq.trans e62 (congrArg Value.bool (decide_eq_true h76))) ?_
                  refine o_callf (vs := #[]) ca23 rfl (args0) (awake3_c hG.all (hg.mono (ht.fr R (by simp)))) ?_
                  rintro _ w94 ⟨rfl, hX92⟩
                  refine ⟨_, rfl, ?_⟩
                  have hH93 := hX92.of_all
                  exact ⟨_, ⟨rfl, rfl⟩, hH93⟩
                | 20, ho_ =>
                  obtain rfl := Option.some.inj ho_
                  obtain ⟨b80, e52, eh8⟩ := (ht.done 8 _ rfl rfl).1
                  obtain ⟨b80_10, v83, s84, q10_8, e54, eh10, ho86⟩ := (ht.done 10 _ rfl rfl).1
                  have z_ : b80 = b80_10 := by have z0_ := Eq.trans (Eq.symm e52) q10_8; simpa using z0_
                  subst z_
                  obtain ⟨e62, eh18⟩ := (ht.done 18 _ rfl rfl).1
                  obtain ⟨e63, eh19⟩ := (ht.done 19 _ rfl rfl).1
                  have hG := ht.has.drop
                  refine GOK.free rfl ?_
                  refine o_pick_t (u := (.bool true)) ((e62 : _ = _).trans (congrArg Value.bool (decide_eq_true h76))) e63 ?_
                  exact ⟨_, ⟨rfl, rfl⟩, hG⟩
                | 21, ho_ =>
                  obtain rfl := Option.some.inj ho_
                  obtain ⟨b80, e52, eh8⟩ := (ht.done 8 _ rfl rfl).1
                  obtain ⟨b80_10, v83, s84, q10_8, e54, eh10, ho86⟩ := (ht.done 10 _ rfl rfl).1
                  have z_ : b80 = b80_10 := by have z0_ := Eq.trans (Eq.symm e52) q10_8; simpa using z0_
                  subst z_
                  obtain ⟨e64, eh20⟩ := (ht.done 20 _ rfl rfl).1
                  have hG := ht.has.drop
                  refine GOK.free rfl ?_
                  refine o_assign (v := (.bool true)) e64 ?_
                  exact ⟨_, ⟨rfl, rfl⟩, hG⟩
                | i_ + 22, ho_ => exact absurd ho_ (by simp)
              · intro vs95 hs96 w97 hT98 hH99
                obtain ⟨e0_, eh0_⟩ := hT98 0 _ rfl
                obtain ⟨e1_, eh1_⟩ := hT98 1 _ rfl
                obtain ⟨e2_, eh2_⟩ := hT98 2 _ rfl
                obtain ⟨e3_, eh3_⟩ := hT98 3 _ rfl
                obtain ⟨e4_, eh4_⟩ := hT98 4 _ rfl
                obtain ⟨e5_, eh5_⟩ := hT98 5 _ rfl
                obtain ⟨e6_, eh6_⟩ := hT98 6 _ rfl
                obtain ⟨e7_, eh7_⟩ := hT98 7 _ rfl
                obtain ⟨b80, e8_, eh8_⟩ := hT98 8 _ rfl
                obtain ⟨e9_, eh9_⟩ := hT98 9 _ rfl
                obtain ⟨b80_10, v83, s84, q10_8, e10_, eh10_, ho86⟩ := hT98 10 _ rfl
                have z_ : b80 = b80_10 := by have z0_ := Eq.trans (Eq.symm e8_) q10_8; simpa using z0_
                subst z_
                obtain ⟨e11_, eh11_⟩ := hT98 11 _ rfl
                obtain ⟨e12_, eh12_⟩ := hT98 12 _ rfl
                obtain ⟨e13_, eh13_⟩ := hT98 13 _ rfl
                obtain ⟨e14_, eh14_⟩ := hT98 14 _ rfl
                obtain ⟨e15_, eh15_⟩ := hT98 15 _ rfl
                obtain ⟨e16_, eh16_⟩ := hT98 16 _ rfl
                obtain ⟨e17_, eh17_⟩ := hT98 17 _ rfl
                obtain ⟨e18_, eh18_⟩ := hT98 18 _ rfl
                obtain ⟨e19_, eh19_⟩ := hT98 19 _ rfl
                obtain ⟨e20_, eh20_⟩ := hT98 20 _ rfl
                obtain ⟨e21_, eh21_⟩ := hT98 21 _ rfl
                have hH100 : Has E w97 ([[Hp.one b20 (.cells #[(.int .i64 f.ep), (.int .i64 f.pl), (.int .i64 f.gsn), (S dd)] 43 (0, 0))], [Hp.one b2 (.cells #[(.int .i64 f.ep), (.int .i64 f.pl), (.int .i64 f.gsn), (S f.data)] 43 (0, 0))], R] ++ [[Hp.one b80 (.cells #[(S f.data)] 9 (0, 0))], s84]) := flow_back (cs := [[Hp.one b80 (.cells #[(S f.data)] 9 (0, 0))], s84]) hH99 (by show (hs96 0 ++ (hs96 1 ++ (hs96 2 ++ (hs96 3 ++ (hs96 4 ++ (hs96 5 ++ (hs96 6 ++ (hs96 7 ++ (hs96 8 ++ (hs96 9 ++ (hs96 10 ++ (hs96 11 ++ (hs96 12 ++ (hs96 13 ++ (hs96 14 ++ (hs96 15 ++ (hs96 16 ++ (hs96 17 ++ (hs96 18 ++ (hs96 19 ++ (hs96 20 ++ (hs96 21 ++ [])))))))))))))))))))))) = _; rw [eh0_, eh1_, eh2_, eh3_, eh4_, eh5_, eh6_, eh7_, eh8_, eh9_, eh10_, eh11_, eh12_, eh13_, eh14_, eh15_, eh16_, eh17_, eh18_, eh19_, eh20_, eh21_]; rfl)
                generalize hr102 : puts vs95 _ 0 _ = r101
                have e103_0 : r101 0 = (.agg #[(.int .i64 f.ep), (.int .i64 f.pl), (.int .i64 f.gsn), (S f.data)]) := by rw [← hr102]; exact e27_0
                have e103_1 : r101 1 = v := by rw [← hr102]; exact e27_1
                have e103_2 : r101 2 = (.pointer (some ⟨b2, 0, none⟩)) := by rw [← hr102]; exact e27_2
                have e103_4 : r101 4 = (.bool true) := by rw [← hr102]; exact e21_
                have e103_5 : r101 5 = (.pointer (some ⟨b20, 0, none⟩)) := by rw [← hr102]; exact e27_5
                have e103_6 : r101 6 = (.int .i64 (k : Int)) := by rw [← hr102]; exact e27_6
                have e103_7 : r101 7 = (S (makeS (Fr.mk f.ep f.pl f.gsn dd))) := by rw [← hr102]; exact rfl
                have e103_16 : r101 16 = (.bool (decide (1000 < (f.data.length : Int)))) := by rw [← hr102]; exact e27_16
                have e103_22 : r101 22 = (.bool (decide ((k : Int) < ((l.length : Nat) : Int)))) := by rw [← hr102]; exact rfl
                have e103_41 : r101 41 = (.bool (rightS (Fr.mk f.ep f.pl f.gsn dd))) := by rw [← hr102]; exact rfl
                refine t_norm (hK74 _ _ ?_)
                refine wp_ret ?_
                refine c_ret1 Tryd.results11  (v := (.bool true)) e103_4 ?_
                have hH104 : Has E w97 [R] := (hH100.front 2 rfl).first 1 rfl
                exact ⟨rfl, hH104⟩
            · -- not: 25 + (([f.data] ++ l).flatten.length : Int) = 25 + (dd.length : Int)
              exfalso
              simp only [List.flatten_append, List.flatten_cons, List.flatten_nil, List.append_nil, List.length_append] at h76
              omega
          · -- not: (makeS (Fr.mk f.ep f.pl f.gsn (f.data ++ l.flatten))) = (makeS (Fr.mk f.ep f.pl f.gsn dd))
            rw [hdd] at h75
            exact absurd rfl h75
        · -- not: (rightS (Fr.mk f.ep f.pl f.gsn dd))
          refine wp_skip ?_
          refine t_norm (hK65 _ _ ?_)
          refine wp_seq_k fun K105 hK105 => ?_
          by_cases h106 : (makeS (Fr.mk f.ep f.pl f.gsn (f.data ++ l.flatten))) = ([] : List UInt8)
          · -- (makeS (Fr.mk f.ep f.pl f.gsn (f.data ++ l.flatten))) = ([] : List UInt8)
            by_cases h107 : 25 + (([f.data] ++ l).flatten.length : Int) = 25 + (dd.length : Int)
            · -- 25 + (([f.data] ++ l).flatten.length : Int) = 25 + (dd.length : Int)
              refine c_flow3 [[Hp.one b20 (.cells #[(.int .i64 f.ep), (.int .i64 f.pl), (.int .i64 f.gsn), (S dd)] 43 (0, 0))], [Hp.one b2 (.cells #[(.int .i64 f.ep), (.int .i64 f.pl), (.int .i64 f.gsn), (S f.data)] 43 (0, 0))], R] (fun i_ => match i_ with | _ => []) (fun i_ v_ h_ m_ => match i_ with | 0 => v_ = (.agg #[(.int .i64 f.ep), (.int .i64 f.pl), (.int .i64 f.gsn), (S f.data)]) ∧ h_ = [] | 1 => v_ = v ∧ h_ = [] | 2 => v_ = (S (makeS (Fr.mk f.ep f.pl f.gsn (f.data ++ l.flatten)))) ∧ h_ = [] | 3 => v_ = (S ([] : List UInt8)) ∧ h_ = [] | 4 => v_ = (.bool (decide ((makeS (Fr.mk f.ep f.pl f.gsn (f.data ++ l.flatten))) = ([] : List UInt8)))) ∧ h_ = [] | 5 => v_ = (.bool (decide ((makeS (Fr.mk f.ep f.pl f.gsn (f.data ++ l.flatten))) = ([] : List UInt8)))) ∧ h_ = [] | 6 => v_ = (.pointer (some ⟨b2, 3, none⟩)) ∧ h_ = [] | 7 => v_ = (S f.data) ∧ h_ = [] | 8 => ∃ (b111 : Nat), v_ = (.slice (some ⟨b111, 0, none⟩) 1 1) ∧ h_ = [Hp.one b111 (.cells #[(S f.data)] 9 (0, 0))] | 9 => v_ = v ∧ h_ = [] | 10 => ∃ (b111 : Nat) (v114 : Value) (s115 : List Hp), m_ 8 = (.slice (some ⟨b111, 0, none⟩) 1 1) ∧ v_ = v114 ∧ h_ = s115 ∧ (Sl ([Hp.one b111 (.cells #[(S f.data)] 9 (0, 0))] ++ s115) 1 v114 ([f.data] ++ l).length (([f.data] ++ l).map sV)) | 11 => v_ = (.int .i64 (25 + (([f.data] ++ l).flatten.length : Int))) ∧ h_ = [] | 12 => v_ = (.pointer (some ⟨b20, 3, none⟩)) ∧ h_ = [] | 13 => v_ = (S dd) ∧ h_ = [] | 14 => v_ = (.int .i64 (dd.length : Int)) ∧ h_ = [] | 15 => v_ = (.int .i64 (25 + (dd.length : Int))) ∧ h_ = [] | 16 => v_ = (.bool (decide (25 + (([f.data] ++ l).flatten.length : Int) = 25 + (dd.length : Int)))) ∧ h_ = [] | 17 => v_ = (.bool (decide (25 + (([f.data] ++ l).flatten.length : Int) = 25 + (dd.length : Int)))) ∧ h_ = [] | 18 => v_ = (.bool (decide (25 + (([f.data] ++ l).flatten.length : Int) = 25 + (dd.length : Int)))) ∧ h_ = [] | 19 => v_ = (.bool true) ∧ h_ = [] | 20 => v_ = (.bool true) ∧ h_ = [] | 21 => v_ = (.bool true) ∧ h_ = [] | _ => True) mixed (by kernel_rfl) (flow_has (cs := []) hH68 rfl) ?_ ?_
              · intro i_ o_ ho_ r' w' G hs_ ht
                match i_, ho_ with
                | 0, ho_ =>
                  obtain rfl := Option.some.inj ho_
                  have e2 : r' 2 = (.pointer (some ⟨b2, 0, none⟩)) := (ht.was 2 (by kernel_rfl)).trans e27_2
                  have hG := ht.has.drop
                  refine GOK.free rfl ?_
                  refine o_loadN (cs := [(.int .i64 f.ep), (.int .i64 f.pl), (.int .i64 f.gsn), (S f.data)]) Tryd.underlying43 rfl ti43 e2 hG (ht.fr [Hp.one b2 (.cells #[(.int .i64 f.ep), (.int .i64 f.pl), (.int .i64 f.gsn), (S f.data)] 43 (0, 0))] (by simp)) (CellsAt.one rfl) ?_
                  exact ⟨_, ⟨rfl, rfl⟩, hG⟩
                | 1, ho_ =>
                  obtain rfl := Option.some.inj ho_
                  have e1 : r' 1 = v := (ht.was 1 (by kernel_rfl)).trans e27_1
                  have hG := ht.has.drop
                  refine GOK.free rfl ?_
                  refine o_move (v := v) e1 ?_
                  exact ⟨_, ⟨rfl, rfl⟩, hG⟩
                | 2, ho_ =>
                  obtain rfl := Option.some.inj ho_
                  obtain ⟨e44, eh0⟩ := (ht.done 0 _ rfl rfl).1
                  obtain ⟨e45, eh1⟩ := (ht.done 1 _ rfl rfl).1
                  have hG := ht.has.drop
                  refine GOK.free rfl ?_
                  refine o_callf (vs := #[(.agg #[(.int .i64 f.ep), (.int .i64 f.pl), (.int .i64 f.gsn), (S f.data)]), v]) ca26 rfl (args2 e44 e45) (make_c hG.all (hg.mono (ht.fr R (by simp))) f (by first | omega | (dsimp only; omega)) (l := l) (hv.mono (ht.fr R (by simp))) (by omega) (by omega) (by omega)) ?_
                  rintro _ w110 ⟨rfl, hX108⟩
                  refine ⟨_, rfl, ?_⟩
                  have hH109 := hX108.of_all
                  exact ⟨_, ⟨rfl, rfl⟩, hH109⟩
                | 3, ho_ =>
                  obtain rfl := Option.some.inj ho_
                  have e7 : r' 7 = (S ([] : List UInt8)) := ht.was 7 (by kernel_rfl)
                  have hG := ht.has.drop
                  refine GOK.free rfl ?_
                  refine o_move (v := (S ([] : List UInt8))) e7 ?_
                  exact ⟨_, ⟨rfl, rfl⟩, hG⟩
                | 4, ho_ =>
                  obtain rfl := Option.some.inj ho_
                  obtain ⟨e46, eh2⟩ := (ht.done 2 _ rfl rfl).1
                  obtain ⟨e47, eh3⟩ := (ht.done 3 _ rfl rfl).1
                  have hG := ht.has.drop
                  refine GOK.free rfl ?_
                  refine o_seql (a := (makeS (Fr.mk f.ep f.pl f.gsn (f.data ++ l.flatten)))) (b := ([] : List UInt8)) e46 e47 ?_
                  exact ⟨_, ⟨rfl, rfl⟩, hG⟩
                | 5, ho_ =>
                  obtain rfl := Option.some.inj ho_
                  obtain ⟨e48, eh4⟩ := (ht.done 4 _ rfl rfl).1
                  have hG := ht.has.drop
                  refine GOK.free rfl ?_
                  refine o_move (v := (.bool (decide ((makeS (Fr.mk f.ep f.pl f.gsn (f.data ++ l.flatten))) = ([] : List UInt8))))) e48 ?_
                  exact ⟨_, ⟨rfl, rfl⟩, hG⟩
                | 6, ho_ =>
                  obtain rfl := Option.some.inj ho_
                  obtain ⟨e49, eh5⟩ := (ht.done 5 _ rfl rfl).1
                  have e2 : r' 2 = (.pointer (some ⟨b2, 0, none⟩)) := (ht.was 2 (by kernel_rfl)).trans e27_2
                  have hG := ht.has.drop
                  refine GOK.on rfl rfl (Eq.trans e49 (congrArg Value.bool (decide_eq_true h106))) ?_
                  refine o_fieldAddr (k := 3) (fun _ => by kernel_rfl) e2 ?_
                  exact ⟨_, ⟨rfl, rfl⟩, hG⟩
                | 7, ho_ =>
                  obtain rfl := Option.some.inj ho_
                  obtain ⟨e49, eh5⟩ := (ht.done 5 _ rfl rfl).1
                  obtain ⟨e50, eh6⟩ := (ht.done 6 _ rfl rfl).1
                  have hG := ht.has.drop
                  refine GOK.on rfl rfl (Eq.trans e49 (congrArg Value.bool (decide_eq_true h106))) ?_
                  refine o_load1 (v := (S f.data)) Tryd.underlying9 rfl e50 hG (ht.fr [Hp.one b2 (.cells #[(.int .i64 f.ep), (.int .i64 f.pl), (.int .i64 f.gsn), (S f.data)] 43 (0, 0))] (by simp)) (CellsAt.one rfl) ?_
                  exact ⟨_, ⟨rfl, rfl⟩, hG⟩
                | 8, ho_ =>
                  obtain rfl := Option.some.inj ho_
                  obtain ⟨e49, eh5⟩ := (ht.done 5 _ rfl rfl).1
                  obtain ⟨e51, eh7⟩ := (ht.done 7 _ rfl rfl).1
                  have hG := ht.has.drop
                  refine GOK.on rfl rfl (Eq.trans e49 (congrArg Value.bool (decide_eq_true h106))) ?_
                  refine o_buildSlice (ps := #[(0, (S f.data))]) (cells := #[(S f.data)]) Tryd.underlying22 ti9 (by decide) (parts1 e51) (by kernel_rfl) hG fun b111 w112 hH113 => ?_
                  exact ⟨_, ⟨b111, rfl, rfl⟩, hH113⟩
                | 9, ho_ =>
                  obtain rfl := Option.some.inj ho_
                  obtain ⟨e49, eh5⟩ := (ht.done 5 _ rfl rfl).1
                  have e1 : r' 1 = v := (ht.was 1 (by kernel_rfl)).trans e27_1
                  have hG := ht.has.drop
                  refine GOK.on rfl rfl (Eq.trans e49 (congrArg Value.bool (decide_eq_true h106))) ?_
                  refine o_move (v := v) e1 ?_
                  exact ⟨_, ⟨rfl, rfl⟩, hG⟩
                | 10, ho_ =>
                  obtain rfl := Option.some.inj ho_
                  obtain ⟨e49, eh5⟩ := (ht.done 5 _ rfl rfl).1
                  obtain ⟨b111, e52, eh8⟩ := (ht.done 8 _ rfl rfl).1
                  obtain ⟨e53, eh9⟩ := (ht.done 9 _ rfl rfl).1
                  have hG := ht.has.drop
                  refine GOK.on rfl rfl (Eq.trans e49 (congrArg Value.bool (decide_eq_true h106))) ?_
                  refine o_append_full Tryd.underlying22 ti9 rfl (by decide) e52 (by decide) (sl_lit (f := sV) (l := [f.data]) rfl rfl (by simp)) e53 hv hG (eh8 ▸ (ht.done 8 _ rfl rfl).2) (ht.fr R (by simp)) (by first | omega | (simp; omega)) (by first | omega | (simp; omega)) fun v114 s115 w118 ho116 hH119 => ?_
                  have ho117 : Sl ([Hp.one b111 (.cells #[(S f.data)] 9 (0, 0))] ++ s115) 1 v114 ([f.data] ++ l).length (([f.data] ++ l).map sV) := by rw [List.length_append, List.map_append]; exact ho116
                  exact ⟨_, ⟨b111, v114, s115, e52, rfl, rfl, ho117⟩, hH119⟩
                | 11, ho_ =>
                  obtain rfl := Option.some.inj ho_
                  obtain ⟨e49, eh5⟩ := (ht.done 5 _ rfl rfl).1
                  obtain ⟨b111, e52, eh8⟩ := (ht.done 8 _ rfl rfl).1
                  obtain ⟨b111_10, v114, s115, q10_8, e54, eh10, ho117⟩ := (ht.done 10 _ rfl rfl).1
                  have z_ : b111 = b111_10 := by have z0_ := Eq.trans (Eq.symm e52) q10_8; simpa using z0_
                  subst z_
                  have hG := ht.has.drop
                  refine GOK.on rfl rfl (Eq.trans e49 (congrArg Value.bool (decide_eq_true h106))) ?_
                  refine o_callf (vs := #[v114]) ca35 rfl (args1 e54) (size_c hG.all (l := ([f.data] ++ l)) (ho117.mono (app_sub (eh8 ▸ (ht.done 8 _ rfl rfl).2) (eh10 ▸ (ht.done 10 _ rfl rfl).2))) (by simp only [List.length_append, List.length_cons, List.length_nil]; omega) (by simp only [List.flatten_append, List.flatten_cons, List.flatten_nil, List.append_nil, List.length_append]; omega)) ?_
                  rintro _ w122 ⟨rfl, hX120⟩
                  refine ⟨_, rfl, ?_⟩
                  have hH121 := hX120.of_all
                  exact ⟨_, ⟨rfl, rfl⟩, hH121⟩
                | 12, ho_ =>
                  obtain rfl := Option.some.inj ho_
                  obtain ⟨e49, eh5⟩ := (ht.done 5 _ rfl rfl).1
                  have e5 : r' 5 = (.pointer (some ⟨b20, 0, none⟩)) := (ht.was 5 (by kernel_rfl)).trans e27_5
                  have hG := ht.has.drop
                  refine GOK.on rfl rfl (Eq.trans e49 (congrArg Value.bool (decide_eq_true h106))) ?_
                  refine o_fieldAddr (k := 3) (fun _ => by kernel_rfl) e5 ?_
                  exact ⟨_, ⟨rfl, rfl⟩, hG⟩
                | 13, ho_ =>
                  obtain rfl := Option.some.inj ho_
                  obtain ⟨e49, eh5⟩ := (ht.done 5 _ rfl rfl).1
                  obtain ⟨e56, eh12⟩ := (ht.done 12 _ rfl rfl).1
                  have hG := ht.has.drop
                  refine GOK.on rfl rfl (Eq.trans e49 (congrArg Value.bool (decide_eq_true h106))) ?_
                  refine o_load1 (v := (S dd)) Tryd.underlying9 rfl e56 hG (ht.fr [Hp.one b20 (.cells #[(.int .i64 f.ep), (.int .i64 f.pl), (.int .i64 f.gsn), (S dd)] 43 (0, 0))] (by simp)) (CellsAt.one rfl) ?_
                  exact ⟨_, ⟨rfl, rfl⟩, hG⟩
                | 14, ho_ =>
                  obtain rfl := Option.some.inj ho_
                  obtain ⟨e49, eh5⟩ := (ht.done 5 _ rfl rfl).1
                  obtain ⟨e57, eh13⟩ := (ht.done 13 _ rfl rfl).1
                  have hG := ht.has.drop
                  refine GOK.on rfl rfl (Eq.trans e49 (congrArg Value.bool (decide_eq_true h106))) ?_
                  refine o_slen Tryd.underlying9 e57 ?_
                  exact ⟨_, ⟨rfl, rfl⟩, hG⟩
                | 15, ho_ =>
                  obtain rfl := Option.some.inj ho_
                  obtain ⟨e49, eh5⟩ := (ht.done 5 _ rfl rfl).1
                  obtain ⟨e58, eh14⟩ := (ht.done 14 _ rfl rfl).1
                  have hG := ht.has.drop
                  refine GOK.on rfl rfl (Eq.trans e49 (congrArg Value.bool (decide_eq_true h106))) ?_
                  refine o_add (a := 25) (b := (dd.length : Int)) rfl e58 (w64 (by omega) (by omega)) ?_
                  exact ⟨_, ⟨rfl, rfl⟩, hG⟩
                | 16, ho_ =>
                  obtain rfl := Option.some.inj ho_
                  obtain ⟨e49, eh5⟩ := (ht.done 5 _ rfl rfl).1
                  obtain ⟨b111, e52, eh8⟩ := (ht.done 8 _ rfl rfl).1
                  obtain ⟨b111_10, v114, s115, q10_8, e54, eh10, ho117⟩ := (ht.done 10 _ rfl rfl).1
                  have z_ : b111 = b111_10 := by have z0_ := Eq.trans (Eq.symm e52) q10_8; simpa using z0_
                  subst z_
                  obtain ⟨e55, eh11⟩ := (ht.done 11 _ rfl rfl).1
                  obtain ⟨e59, eh15⟩ := (ht.done 15 _ rfl rfl).1
                  have hG := ht.has.drop
                  refine GOK.on rfl rfl (Eq.trans e49 (congrArg Value.bool (decide_eq_true h106))) ?_
                  refine o_eql (a := 25 + (([f.data] ++ l).flatten.length : Int)) (b := 25 + (dd.length : Int)) e55 e59 ?_
                  exact ⟨_, ⟨rfl, rfl⟩, hG⟩
                | 17, ho_ =>
                  obtain rfl := Option.some.inj ho_
                  obtain ⟨e49, eh5⟩ := (ht.done 5 _ rfl rfl).1
                  obtain ⟨b111, e52, eh8⟩ := (ht.done 8 _ rfl rfl).1
                  obtain ⟨b111_10, v114, s115, q10_8, e54, eh10, ho117⟩ := (ht.done 10 _ rfl rfl).1
                  have z_ : b111 = b111_10 := by have z0_ := Eq.trans (Eq.symm e52) q10_8; simpa using z0_
                  subst z_
                  obtain ⟨e60, eh16⟩ := (ht.done 16 _ rfl rfl).1
                  have hG := ht.has.drop
                  refine GOK.free rfl ?_
                  refine o_pick_t (u := (.bool (decide (25 + (([f.data] ++ l).flatten.length : Int) = 25 + (dd.length : Int))))) ((e49 : _ = _).trans (congrArg Value.bool (decide_eq_true h106))) e60 ?_
                  exact ⟨_, ⟨rfl, rfl⟩, hG⟩
                | 18, ho_ =>
                  obtain rfl := Option.some.inj ho_
                  obtain ⟨b111, e52, eh8⟩ := (ht.done 8 _ rfl rfl).1
                  obtain ⟨b111_10, v114, s115, q10_8, e54, eh10, ho117⟩ := (ht.done 10 _ rfl rfl).1
                  have z_ : b111 = b111_10 := by have z0_ := Eq.trans (Eq.symm e52) q10_8; simpa using z0_
                  subst z_
                  obtain ⟨e61, eh17⟩ := (ht.done 17 _ rfl rfl).1
                  have hG := ht.has.drop
                  refine GOK.free rfl ?_
                  refine o_move (v := (.bool (decide (25 + (([f.data] ++ l).flatten.length : Int) = 25 + (dd.length : Int))))) e61 ?_
                  exact ⟨_, ⟨rfl, rfl⟩, hG⟩
                | 19, ho_ =>
                  obtain rfl := Option.some.inj ho_
                  obtain ⟨b111, e52, eh8⟩ := (ht.done 8 _ rfl rfl).1
                  obtain ⟨b111_10, v114, s115, q10_8, e54, eh10, ho117⟩ := (ht.done 10 _ rfl rfl).1
                  have z_ : b111 = b111_10 := by have z0_ := Eq.trans (Eq.symm e52) q10_8; simpa using z0_
                  subst z_
                  obtain ⟨e62, eh18⟩ := (ht.done 18 _ rfl rfl).1
                  have hG := ht.has.drop
                  refine GOK.on rfl rfl (Eq.trans e62 (congrArg Value.bool (decide_eq_true h107))) ?_
                  refine o_callf (vs := #[]) ca23 rfl (args0) (awake3_c hG.all (hg.mono (ht.fr R (by simp)))) ?_
                  rintro _ w125 ⟨rfl, hX123⟩
                  refine ⟨_, rfl, ?_⟩
                  have hH124 := hX123.of_all
                  exact ⟨_, ⟨rfl, rfl⟩, hH124⟩
                | 20, ho_ =>
                  obtain rfl := Option.some.inj ho_
                  obtain ⟨b111, e52, eh8⟩ := (ht.done 8 _ rfl rfl).1
                  obtain ⟨b111_10, v114, s115, q10_8, e54, eh10, ho117⟩ := (ht.done 10 _ rfl rfl).1
                  have z_ : b111 = b111_10 := by have z0_ := Eq.trans (Eq.symm e52) q10_8; simpa using z0_
                  subst z_
                  obtain ⟨e62, eh18⟩ := (ht.done 18 _ rfl rfl).1
                  obtain ⟨e63, eh19⟩ := (ht.done 19 _ rfl rfl).1
                  have hG := ht.has.drop
                  refine GOK.free rfl ?_
                  refine o_pick_t (u := (.bool true)) ((e62 : _ = _).trans (congrArg Value.bool (decide_eq_true h107))) e63 ?_
                  exact ⟨_, ⟨rfl, rfl⟩, hG⟩
                | 21, ho_ =>
                  obtain rfl := Option.some.inj ho_
                  obtain ⟨b111, e52, eh8⟩ := (ht.done 8 _ rfl rfl).1
                  obtain ⟨b111_10, v114, s115, q10_8, e54, eh10, ho117⟩ := (ht.done 10 _ rfl rfl).1
                  have z_ : b111 = b111_10 := by have z0_ := Eq.trans (Eq.symm e52) q10_8; simpa using z0_
                  subst z_
                  obtain ⟨e64, eh20⟩ := (ht.done 20 _ rfl rfl).1
                  have hG := ht.has.drop
                  refine GOK.free rfl ?_
                  refine o_assign (v := (.bool true)) e64 ?_
                  exact ⟨_, ⟨rfl, rfl⟩, hG⟩
                | i_ + 22, ho_ => exact absurd ho_ (by simp)
              · intro vs126 hs127 w128 hT129 hH130
                obtain ⟨e0_, eh0_⟩ := hT129 0 _ rfl
                obtain ⟨e1_, eh1_⟩ := hT129 1 _ rfl
                obtain ⟨e2_, eh2_⟩ := hT129 2 _ rfl
                obtain ⟨e3_, eh3_⟩ := hT129 3 _ rfl
                obtain ⟨e4_, eh4_⟩ := hT129 4 _ rfl
                obtain ⟨e5_, eh5_⟩ := hT129 5 _ rfl
                obtain ⟨e6_, eh6_⟩ := hT129 6 _ rfl
                obtain ⟨e7_, eh7_⟩ := hT129 7 _ rfl
                obtain ⟨b111, e8_, eh8_⟩ := hT129 8 _ rfl
                obtain ⟨e9_, eh9_⟩ := hT129 9 _ rfl
                obtain ⟨b111_10, v114, s115, q10_8, e10_, eh10_, ho117⟩ := hT129 10 _ rfl
                have z_ : b111 = b111_10 := by have z0_ := Eq.trans (Eq.symm e8_) q10_8; simpa using z0_
                subst z_
                obtain ⟨e11_, eh11_⟩ := hT129 11 _ rfl
                obtain ⟨e12_, eh12_⟩ := hT129 12 _ rfl
                obtain ⟨e13_, eh13_⟩ := hT129 13 _ rfl
                obtain ⟨e14_, eh14_⟩ := hT129 14 _ rfl
                obtain ⟨e15_, eh15_⟩ := hT129 15 _ rfl
                obtain ⟨e16_, eh16_⟩ := hT129 16 _ rfl
                obtain ⟨e17_, eh17_⟩ := hT129 17 _ rfl
                obtain ⟨e18_, eh18_⟩ := hT129 18 _ rfl
                obtain ⟨e19_, eh19_⟩ := hT129 19 _ rfl
                obtain ⟨e20_, eh20_⟩ := hT129 20 _ rfl
                obtain ⟨e21_, eh21_⟩ := hT129 21 _ rfl
                have hH131 : Has E w128 ([[Hp.one b20 (.cells #[(.int .i64 f.ep), (.int .i64 f.pl), (.int .i64 f.gsn), (S dd)] 43 (0, 0))], [Hp.one b2 (.cells #[(.int .i64 f.ep), (.int .i64 f.pl), (.int .i64 f.gsn), (S f.data)] 43 (0, 0))], R] ++ [[Hp.one b111 (.cells #[(S f.data)] 9 (0, 0))], s115]) := flow_back (cs := [[Hp.one b111 (.cells #[(S f.data)] 9 (0, 0))], s115]) hH130 (by show (hs127 0 ++ (hs127 1 ++ (hs127 2 ++ (hs127 3 ++ (hs127 4 ++ (hs127 5 ++ (hs127 6 ++ (hs127 7 ++ (hs127 8 ++ (hs127 9 ++ (hs127 10 ++ (hs127 11 ++ (hs127 12 ++ (hs127 13 ++ (hs127 14 ++ (hs127 15 ++ (hs127 16 ++ (hs127 17 ++ (hs127 18 ++ (hs127 19 ++ (hs127 20 ++ (hs127 21 ++ [])))))))))))))))))))))) = _; rw [eh0_, eh1_, eh2_, eh3_, eh4_, eh5_, eh6_, eh7_, eh8_, eh9_, eh10_, eh11_, eh12_, eh13_, eh14_, eh15_, eh16_, eh17_, eh18_, eh19_, eh20_, eh21_]; rfl)
                generalize hr133 : puts vs126 _ 0 _ = r132
                have e134_0 : r132 0 = (.agg #[(.int .i64 f.ep), (.int .i64 f.pl), (.int .i64 f.gsn), (S f.data)]) := by rw [← hr133]; exact e27_0
                have e134_1 : r132 1 = v := by rw [← hr133]; exact e27_1
                have e134_2 : r132 2 = (.pointer (some ⟨b2, 0, none⟩)) := by rw [← hr133]; exact e27_2
                have e134_4 : r132 4 = (.bool true) := by rw [← hr133]; exact e21_
                have e134_5 : r132 5 = (.pointer (some ⟨b20, 0, none⟩)) := by rw [← hr133]; exact e27_5
                have e134_6 : r132 6 = (.int .i64 (k : Int)) := by rw [← hr133]; exact e27_6
                have e134_7 : r132 7 = (S ([] : List UInt8)) := by rw [← hr133]; exact rfl
                have e134_16 : r132 16 = (.bool (decide (1000 < (f.data.length : Int)))) := by rw [← hr133]; exact e27_16
                have e134_22 : r132 22 = (.bool (decide ((k : Int) < ((l.length : Nat) : Int)))) := by rw [← hr133]; exact rfl
                have e134_41 : r132 41 = (.bool (rightS (Fr.mk f.ep f.pl f.gsn dd))) := by rw [← hr133]; exact rfl
                refine t_norm (hK105 _ _ ?_)
                refine wp_ret ?_
                refine c_ret1 Tryd.results11  (v := (.bool true)) e134_4 ?_
                have hH135 : Has E w128 [R] := (hH131.front 2 rfl).first 1 rfl
                exact ⟨rfl, hH135⟩
            · -- not: 25 + (([f.data] ++ l).flatten.length : Int) = 25 + (dd.length : Int)
              exfalso
              simp only [List.flatten_append, List.flatten_cons, List.flatten_nil, List.append_nil, List.length_append] at h107
              omega
          · -- not: (makeS (Fr.mk f.ep f.pl f.gsn (f.data ++ l.flatten))) = ([] : List UInt8)
            exact absurd (makeS_no (by rw [← hdd]; exact h70)) h106
end Go.Q
