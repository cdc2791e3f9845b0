/-
  Parts of a walk: what functions of the program compute, each told by a theorem.
-/
import Derived.Test.YtagicdbeacmffaaDoorQV3
import Derived.Test.YtagicdbeacmffaaDoorQBurst
set_option linter.unusedVariables false
set_option linter.unusedSimpArgs false
namespace Go.Q
open Go.Proofs
set_option linter.unusedVariables false
set_option maxRecDepth 100000
attribute [local irreducible] wpList OK Code.wp
set_option maxHeartbeats 4000000 in
theorem turned_c {E w : World} {R : List Hp} (hH : Has E w [R]) (t : List UInt8) (hl : t.length ≤ 1000000) (a : Nat) (ha : a ≤ 9000000) (bv : BitVec 32) :
    Calls Tryd.prog 19 #[(S t), (.int .i64 (a : Int)), (.int .u32 (bv.toNat : Int))] w fun e w' => ∃ t', e = .returned (S t') ∧ Win a t' t ∧ Has E w' [R] := by
  refine c_enter (args := [(S t), (.int .i64 (a : Int)), (.int .u32 (bv.toNat : Int))]) Tryd.func19 rfl Tryd.ntmps19 (by simp) ?_
  refine wp_seq_k fun K1 hK1 => ?_
  refine c_region ?_
  refine s_op (o_assign (v := (S ([] : List UInt8))) rfl ?_)
  refine s_nil ?_
  refine t_norm (hK1 _ _ ?_)
  refine wp_seq_k fun K2 hK2 => ?_
  refine c_region ?_
  refine s_op (o_move (v := (S t)) rfl ?_)
  refine s_op (o_strb Tryd.underlying9 Tryd.underlying68 Tryd.underlying5 rfl (by omega) hH fun v3 s4 w6 ho5 hH7 => ?_)
  refine s_op (o_assign (v := v3) rfl ?_)
  refine s_nil ?_
  refine t_norm (hK2 _ _ ?_)
  refine wp_seq_k fun K8 hK8 => ?_
  refine wp_seq_k fun K9 hK9 => ?_
  refine c_region ?_
  refine s_op (o_assign (v := (.int .i64 0)) rfl ?_)
  refine s_nil ?_
  refine t_norm (hK9 _ _ ?_)
  refine wp_block ?_
  let I11 : Nat → (Nat → Value) → World → Prop := fun n__ r__ w__ => ∃ (i : Nat) (hz : List Hp) (lc : List UInt8), n__ = 32 - i ∧ Has E w__ [hz, R] ∧ (i ≤ 32) ∧ (OwnZ 5 v3 lc.length (lc.map bV) hz) ∧ (Win a lc t) ∧ r__ 0 = (S t) ∧ r__ 1 = (.int .i64 (a : Int)) ∧ r__ 2 = (.int .u32 (bv.toNat : Int)) ∧ r__ 6 = (S ([] : List UInt8)) ∧ r__ 7 = v3 ∧ r__ 8 = (.int .i64 (i : Int))
  refine c_loop I11 _ ⟨0, s4, t, rfl, hH7, (by omega), ho5, Win.refl a t, rfl, rfl, rfl, rfl, rfl, rfl⟩ ?_
  rintro n_ r14 w12 ⟨i, hz, lc, rfl, hH13, hi, hoz, hwin, e10_0, e10_1, e10_2, e10_6, e10_7, e10_8⟩
  have hlc := hwin.1
  refine wp_seq_k fun K15 hK15 => ?_
  refine wp_seq_k fun K16 hK16 => ?_
  refine c_region ?_
  refine s_op (o_move (v := (.int .i64 (i : Int))) e10_8 ?_)
  refine s_op (o_lss (a := (i : Int)) (b := 32) rfl rfl ?_)
  refine s_op (o_move (v := (.bool (decide ((i : Int) < 32)))) rfl ?_)
  by_cases h17 : (i : Int) < 32
  · -- (i : Int) < 32
    refine s_on 13 rfl (congrArg Value.bool (decide_eq_true h17)) (o_move (v := v3) e10_7 ?_)
    refine s_on 13 rfl (congrArg Value.bool (decide_eq_true h17)) (o_lenS Tryd.underlying68 rfl hoz.sl ?_)
    refine s_on 13 rfl (congrArg Value.bool (decide_eq_true h17)) (o_gtr (a := ((lc.length : Nat) : Int)) (b := 0) rfl rfl ?_)
    refine s_op (o_pick_t (u := (.bool (decide (0 < ((lc.length : Nat) : Int))))) ((rfl : _ = _).trans (congrArg Value.bool (decide_eq_true h17))) rfl ?_)
    refine s_op (o_move (v := (.bool (decide (0 < ((lc.length : Nat) : Int))))) rfl ?_)
    by_cases h18 : 0 < ((lc.length : Nat) : Int)
    · -- 0 < ((lc.length : Nat) : Int)
      refine s_on 18 rfl (congrArg Value.bool (decide_eq_true h18)) (o_move (v := (.int .i64 (a : Int))) e10_1 ?_)
      refine s_on 18 rfl (congrArg Value.bool (decide_eq_true h18)) (o_move (v := (.int .i64 (i : Int))) e10_8 ?_)
      refine s_on 18 rfl (congrArg Value.bool (decide_eq_true h18)) (o_add (a := (a : Int)) (b := (i : Int)) rfl rfl (w64 (by omega) (by omega)) ?_)
      refine s_on 18 rfl (congrArg Value.bool (decide_eq_true h18)) (o_move (v := v3) e10_7 ?_)
      refine s_on 18 rfl (congrArg Value.bool (decide_eq_true h18)) (o_lenS Tryd.underlying68 rfl hoz.sl ?_)
      refine s_on 18 rfl (congrArg Value.bool (decide_eq_true h18)) (o_mul (a := 8) (b := ((lc.length : Nat) : Int)) rfl rfl (w64 (by omega) (by omega)) ?_)
      refine s_on 18 rfl (congrArg Value.bool (decide_eq_true h18)) (o_lss (a := (a : Int) + (i : Int)) (b := 8 * ((lc.length : Nat) : Int)) rfl rfl ?_)
      refine s_op (o_pick_t (u := (.bool (decide ((a : Int) + (i : Int) < 8 * ((lc.length : Nat) : Int))))) ((rfl : _ = _).trans (congrArg Value.bool (decide_eq_true h18))) rfl ?_)
      refine s_nil ?_
      refine t_norm (hK16 _ _ ?_)
      refine c_cond rfl (fun h19 => ?_) (fun h19 => ?_)
      · -- (a : Int) + (i : Int) < 8 * ((lc.length : Nat) : Int)
        refine wp_skip ?_
        refine t_norm (hK15 _ _ ?_)
        refine wp_seq_k fun K20 hK20 => ?_
        refine wp_block ?_
        refine wp_seq_k fun K21 hK21 => ?_
        refine c_region ?_
        refine s_op (o_move (v := (.int .u32 (bv.toNat : Int))) e10_2 ?_)
        refine s_op (o_move (v := (.int .i64 (i : Int))) e10_8 ?_)
        refine s_op (o_shr (a := ((bv).toNat : Int)) (b := ((i : Nat) : Int)) (c := ((bv >>> i).toNat : Int)) rfl rfl (by omega) (shr32 bv i (by omega)) ?_)
        refine s_op (o_rem (a := ((bv >>> i).toNat : Int)) (b := 2) (c := ((bv >>> i).toNat : Int) % 2) rfl rfl (by omega) ((Int.tmod_eq_emod_of_nonneg (by first | exact Int.natCast_nonneg _ | omega))) ?_)
        refine s_op (o_eql (a := ((bv >>> i).toNat : Int) % 2) (b := 1) rfl rfl ?_)
        refine s_nil ?_
        refine t_norm (hK21 _ _ ?_)
        refine c_cond rfl (fun h22 => ?_) (fun h22 => ?_)
        · -- ((bv >>> i).toNat : Int) % 2 = 1
          obtain ⟨x26, hx27⟩ : ∃ x_, lc[(((a : Int) + (i : Int)) / 8).toNat]? = some x_ := get_some (by omega)
          have hH34 : Has E w12 [R, hz] := (hH13.front 1 rfl).first 2 rfl
          refine c_flow [R] (fun i_ => match i_ with | 19 => hz | _ => []) (fun i_ v_ h_ => match i_ with | 0 => v_ = v3 ∧ h_ = [] | 1 => v_ = (.int .i64 (a : Int)) ∧ h_ = [] | 2 => v_ = (.int .i64 (i : Int)) ∧ h_ = [] | 3 => v_ = (.int .i64 ((a : Int) + (i : Int))) ∧ h_ = [] | 4 => v_ = (.int .i64 (((a : Int) + (i : Int)) / 8)) ∧ h_ = [] | 5 => v_ = v3 ∧ h_ = [] | 6 => v_ = (.int .i64 (a : Int)) ∧ h_ = [] | 7 => v_ = (.int .i64 (i : Int)) ∧ h_ = [] | 8 => v_ = (.int .i64 ((a : Int) + (i : Int))) ∧ h_ = [] | 9 => v_ = (.int .i64 (((a : Int) + (i : Int)) / 8)) ∧ h_ = [] | 10 => ∃ (b23 : Nat) (o24 : Nat), v_ = (.pointer (some ⟨b23, o24, none⟩)) ∧ h_ = [] ∧ (CellsAt hz b23 o24 [(bV x26)]) | 11 => v_ = (bV x26) ∧ h_ = [] | 12 => v_ = (.int .i64 (a : Int)) ∧ h_ = [] | 13 => v_ = (.int .i64 (i : Int)) ∧ h_ = [] | 14 => v_ = (.int .i64 ((a : Int) + (i : Int))) ∧ h_ = [] | 15 => v_ = (.int .i64 (((a : Int) + (i : Int)) % 8)) ∧ h_ = [] | 16 => v_ = (bV (pow8 (((a : Int) + (i : Int)) % 8).toNat)) ∧ h_ = [] | 17 => v_ = (bV (x26 ^^^ (pow8 (((a : Int) + (i : Int)) % 8).toNat))) ∧ h_ = [] | 18 => ∃ (b28 : Nat), v_ = (.pointer (some ⟨b28, (((a : Int) + (i : Int)) / 8).toNat, none⟩)) ∧ h_ = [] ∧ (OwnAtZ 5 v3 lc.length (lc.map bV) hz b28) | 19 => ∃ (s30 : List Hp), v_ = undef ∧ h_ = s30 ∧ (OwnZ 5 v3 (lc.set ((((a : Int) + (i : Int)) / 8).toNat) (x26 ^^^ (pow8 (((a : Int) + (i : Int)) % 8).toNat))).length ((lc.set ((((a : Int) + (i : Int)) / 8).toNat) (x26 ^^^ (pow8 (((a : Int) + (i : Int)) % 8).toNat))).map bV) s30) | _ => True) mixed (by kernel_rfl) (flow_has (cs := [hz]) hH34 rfl) ?_ ?_
          · intro i_ o_ ho_ r' w' G hs_ ht
            match i_, ho_ with
            | 0, ho_ =>
              obtain rfl := Option.some.inj ho_
              have e7 : r' 7 = v3 := (ht.was 7 (by kernel_rfl)).trans e10_7
              have hG := ht.has.drop
              refine o_move (v := v3) e7 ?_
              exact ⟨_, ⟨rfl, rfl⟩, hG⟩
            | 1, ho_ =>
              obtain rfl := Option.some.inj ho_
              have e1 : r' 1 = (.int .i64 (a : Int)) := (ht.was 1 (by kernel_rfl)).trans e10_1
              have hG := ht.has.drop
              refine o_move (v := (.int .i64 (a : Int))) e1 ?_
              exact ⟨_, ⟨rfl, rfl⟩, hG⟩
            | 2, ho_ =>
              obtain rfl := Option.some.inj ho_
              have e8 : r' 8 = (.int .i64 (i : Int)) := (ht.was 8 (by kernel_rfl)).trans e10_8
              have hG := ht.has.drop
              refine o_move (v := (.int .i64 (i : Int))) e8 ?_
              exact ⟨_, ⟨rfl, rfl⟩, hG⟩
            | 3, ho_ =>
              obtain rfl := Option.some.inj ho_
              obtain ⟨e35, eh1⟩ := (ht.done 1 _ rfl rfl).1
              obtain ⟨e36, eh2⟩ := (ht.done 2 _ rfl rfl).1
              have hG := ht.has.drop
              refine o_add (a := (a : Int)) (b := (i : Int)) e35 e36 (w64 (by omega) (by omega)) ?_
              exact ⟨_, ⟨rfl, rfl⟩, hG⟩
            | 4, ho_ =>
              obtain rfl := Option.some.inj ho_
              obtain ⟨e37, eh3⟩ := (ht.done 3 _ rfl rfl).1
              have hG := ht.has.drop
              refine o_quo (a := (a : Int) + (i : Int)) (b := 8) (c := ((a : Int) + (i : Int)) / 8) e37 rfl (by omega) (by rw [(Int.tdiv_eq_ediv_of_nonneg (by first | exact Int.natCast_nonneg _ | omega))]; exact w64 (by omega) (by omega)) ?_
              exact ⟨_, ⟨rfl, rfl⟩, hG⟩
            | 5, ho_ =>
              obtain rfl := Option.some.inj ho_
              have e7 : r' 7 = v3 := (ht.was 7 (by kernel_rfl)).trans e10_7
              have hG := ht.has.drop
              refine o_move (v := v3) e7 ?_
              exact ⟨_, ⟨rfl, rfl⟩, hG⟩
            | 6, ho_ =>
              obtain rfl := Option.some.inj ho_
              have e1 : r' 1 = (.int .i64 (a : Int)) := (ht.was 1 (by kernel_rfl)).trans e10_1
              have hG := ht.has.drop
              refine o_move (v := (.int .i64 (a : Int))) e1 ?_
              exact ⟨_, ⟨rfl, rfl⟩, hG⟩
            | 7, ho_ =>
              obtain rfl := Option.some.inj ho_
              have e8 : r' 8 = (.int .i64 (i : Int)) := (ht.was 8 (by kernel_rfl)).trans e10_8
              have hG := ht.has.drop
              refine o_move (v := (.int .i64 (i : Int))) e8 ?_
              exact ⟨_, ⟨rfl, rfl⟩, hG⟩
            | 8, ho_ =>
              obtain rfl := Option.some.inj ho_
              obtain ⟨e40, eh6⟩ := (ht.done 6 _ rfl rfl).1
              obtain ⟨e41, eh7⟩ := (ht.done 7 _ rfl rfl).1
              have hG := ht.has.drop
              refine o_add (a := (a : Int)) (b := (i : Int)) e40 e41 (w64 (by omega) (by omega)) ?_
              exact ⟨_, ⟨rfl, rfl⟩, hG⟩
            | 9, ho_ =>
              obtain rfl := Option.some.inj ho_
              obtain ⟨e42, eh8⟩ := (ht.done 8 _ rfl rfl).1
              have hG := ht.has.drop
              refine o_quo (a := (a : Int) + (i : Int)) (b := 8) (c := ((a : Int) + (i : Int)) / 8) e42 rfl (by omega) (by rw [(Int.tdiv_eq_ediv_of_nonneg (by first | exact Int.natCast_nonneg _ | omega))]; exact w64 (by omega) (by omega)) ?_
              exact ⟨_, ⟨rfl, rfl⟩, hG⟩
            | 10, ho_ =>
              obtain rfl := Option.some.inj ho_
              obtain ⟨e39, eh5⟩ := (ht.done 5 _ rfl rfl).1
              obtain ⟨e43, eh9⟩ := (ht.done 9 _ rfl rfl).1
              have hG := ht.has.drop
              refine o_index1 Tryd.underlying68 ti5 e39 hoz.sl e43 (by omega) hx27 fun b23 o24 hc25 => ?_
              exact ⟨_, ⟨b23, o24, rfl, rfl, hc25⟩, hG⟩
            | 11, ho_ =>
              obtain rfl := Option.some.inj ho_
              obtain ⟨b23, o24, e44, eh10, hc25⟩ := (ht.done 10 _ rfl rfl).1
              have hG := ht.has.drop
              refine o_load1 (v := (bV x26)) Tryd.underlying5 rfl e44 hG (ht.todo 19 rfl) hc25 ?_
              exact ⟨_, ⟨rfl, rfl⟩, hG⟩
            | 12, ho_ =>
              obtain rfl := Option.some.inj ho_
              have e1 : r' 1 = (.int .i64 (a : Int)) := (ht.was 1 (by kernel_rfl)).trans e10_1
              have hG := ht.has.drop
              refine o_move (v := (.int .i64 (a : Int))) e1 ?_
              exact ⟨_, ⟨rfl, rfl⟩, hG⟩
            | 13, ho_ =>
              obtain rfl := Option.some.inj ho_
              have e8 : r' 8 = (.int .i64 (i : Int)) := (ht.was 8 (by kernel_rfl)).trans e10_8
              have hG := ht.has.drop
              refine o_move (v := (.int .i64 (i : Int))) e8 ?_
              exact ⟨_, ⟨rfl, rfl⟩, hG⟩
            | 14, ho_ =>
              obtain rfl := Option.some.inj ho_
              obtain ⟨e46, eh12⟩ := (ht.done 12 _ rfl rfl).1
              obtain ⟨e47, eh13⟩ := (ht.done 13 _ rfl rfl).1
              have hG := ht.has.drop
              refine o_add (a := (a : Int)) (b := (i : Int)) e46 e47 (w64 (by omega) (by omega)) ?_
              exact ⟨_, ⟨rfl, rfl⟩, hG⟩
            | 15, ho_ =>
              obtain rfl := Option.some.inj ho_
              obtain ⟨e48, eh14⟩ := (ht.done 14 _ rfl rfl).1
              have hG := ht.has.drop
              refine o_rem (a := (a : Int) + (i : Int)) (b := 8) (c := ((a : Int) + (i : Int)) % 8) e48 rfl (by omega) ((Int.tmod_eq_emod_of_nonneg (by first | exact Int.natCast_nonneg _ | omega))) ?_
              exact ⟨_, ⟨rfl, rfl⟩, hG⟩
            | 16, ho_ =>
              obtain rfl := Option.some.inj ho_
              obtain ⟨e49, eh15⟩ := (ht.done 15 _ rfl rfl).1
              have hG := ht.has.drop
              refine o_shl (a := 1) (b := ((a : Int) + (i : Int)) % 8) (c := ((pow8 (((a : Int) + (i : Int)) % 8).toNat).toNat : Int)) rfl e49 (by omega) (shl8z (by omega) (by omega)) ?_
              exact ⟨_, ⟨rfl, rfl⟩, hG⟩
            | 17, ho_ =>
              obtain rfl := Option.some.inj ho_
              obtain ⟨b23, o24, e44, eh10, hc25⟩ := (ht.done 10 _ rfl rfl).1
              obtain ⟨e45, eh11⟩ := (ht.done 11 _ rfl rfl).1
              obtain ⟨e50, eh16⟩ := (ht.done 16 _ rfl rfl).1
              have hG := ht.has.drop
              refine o_xor (a := (x26.toNat : Int)) (b := ((pow8 (((a : Int) + (i : Int)) % 8).toNat).toNat : Int)) (c := ((x26 ^^^ (pow8 (((a : Int) + (i : Int)) % 8).toNat)).toNat : Int)) e45 e50 (xor8 _ _) ?_
              exact ⟨_, ⟨rfl, rfl⟩, hG⟩
            | 18, ho_ =>
              obtain rfl := Option.some.inj ho_
              obtain ⟨e34, eh0⟩ := (ht.done 0 _ rfl rfl).1
              obtain ⟨e38, eh4⟩ := (ht.done 4 _ rfl rfl).1
              obtain ⟨b23, o24, e44, eh10, hc25⟩ := (ht.done 10 _ rfl rfl).1
              have hG := ht.has.drop
              refine o_ownAddrZ Tryd.underlying68 ti5 e34 hoz e38 (by omega) (by omega) fun b28 ho29 => ?_
              exact ⟨_, ⟨b28, rfl, rfl, ho29⟩, hG⟩
            | 19, ho_ =>
              obtain rfl := Option.some.inj ho_
              obtain ⟨b23, o24, e44, eh10, hc25⟩ := (ht.done 10 _ rfl rfl).1
              obtain ⟨e51, eh17⟩ := (ht.done 17 _ rfl rfl).1
              obtain ⟨b28, e52, eh18, ho29⟩ := (ht.done 18 _ rfl rfl).1
              have hG := ht.has
              refine o_ownStoreZ (f := bV) (l := lc) (a := (x26 ^^^ (pow8 (((a : Int) + (i : Int)) % 8).toNat))) ti5 e52 e51 rfl ho29 (by omega) hG fun s30 w31 ho32 hH33 => ?_
              exact ⟨_, ⟨s30, rfl, rfl, ho32⟩, hH33⟩
            | i_ + 20, ho_ => exact absurd ho_ (by simp)
          · intro vs34 hs35 w36 hT37 hH38
            obtain ⟨e0_, eh0_⟩ := hT37 0 _ rfl
            obtain ⟨e1_, eh1_⟩ := hT37 1 _ rfl
            obtain ⟨e2_, eh2_⟩ := hT37 2 _ rfl
            obtain ⟨e3_, eh3_⟩ := hT37 3 _ rfl
            obtain ⟨e4_, eh4_⟩ := hT37 4 _ rfl
            obtain ⟨e5_, eh5_⟩ := hT37 5 _ rfl
            obtain ⟨e6_, eh6_⟩ := hT37 6 _ rfl
            obtain ⟨e7_, eh7_⟩ := hT37 7 _ rfl
            obtain ⟨e8_, eh8_⟩ := hT37 8 _ rfl
            obtain ⟨e9_, eh9_⟩ := hT37 9 _ rfl
            obtain ⟨b23, o24, e10_, eh10_, hc25⟩ := hT37 10 _ rfl
            obtain ⟨e11_, eh11_⟩ := hT37 11 _ rfl
            obtain ⟨e12_, eh12_⟩ := hT37 12 _ rfl
            obtain ⟨e13_, eh13_⟩ := hT37 13 _ rfl
            obtain ⟨e14_, eh14_⟩ := hT37 14 _ rfl
            obtain ⟨e15_, eh15_⟩ := hT37 15 _ rfl
            obtain ⟨e16_, eh16_⟩ := hT37 16 _ rfl
            obtain ⟨e17_, eh17_⟩ := hT37 17 _ rfl
            obtain ⟨b28, e18_, eh18_, ho29⟩ := hT37 18 _ rfl
            obtain ⟨s30, e19_, eh19_, ho32⟩ := hT37 19 _ rfl
            have hH39 : Has E w36 ([R] ++ [s30]) := flow_back (cs := [s30]) hH38 (by show (hs35 0 ++ (hs35 1 ++ (hs35 2 ++ (hs35 3 ++ (hs35 4 ++ (hs35 5 ++ (hs35 6 ++ (hs35 7 ++ (hs35 8 ++ (hs35 9 ++ (hs35 10 ++ (hs35 11 ++ (hs35 12 ++ (hs35 13 ++ (hs35 14 ++ (hs35 15 ++ (hs35 16 ++ (hs35 17 ++ (hs35 18 ++ (hs35 19 ++ [])))))))))))))))))))) = _; rw [eh0_, eh1_, eh2_, eh3_, eh4_, eh5_, eh6_, eh7_, eh8_, eh9_, eh10_, eh11_, eh12_, eh13_, eh14_, eh15_, eh16_, eh17_, eh18_, eh19_]; rfl)
            generalize hr41 : puts vs34 _ 0 _ = r40
            have e42_0 : r40 0 = (S t) := by rw [← hr41]; exact e10_0
            have e42_1 : r40 1 = (.int .i64 (a : Int)) := by rw [← hr41]; exact e10_1
            have e42_2 : r40 2 = (.int .u32 (bv.toNat : Int)) := by rw [← hr41]; exact e10_2
            have e42_6 : r40 6 = (S ([] : List UInt8)) := by rw [← hr41]; exact e10_6
            have e42_7 : r40 7 = v3 := by rw [← hr41]; exact e10_7
            have e42_8 : r40 8 = (.int .i64 (i : Int)) := by rw [← hr41]; exact e10_8
            have e42_26 : r40 26 = (.bool (decide ((a : Int) + (i : Int) < 8 * ((lc.length : Nat) : Int)))) := by rw [← hr41]; exact rfl
            have e42_33 : r40 33 = (.bool (decide (((bv >>> i).toNat : Int) % 2 = 1))) := by rw [← hr41]; exact rfl
            refine b_norm ?_
            refine t_norm (hK20 _ _ ?_)
            refine c_region ?_
            refine s_op (o_move (v := (.int .i64 (i : Int))) e42_8 ?_)
            refine s_op (o_add (a := (i : Int)) (b := 1) rfl rfl (w64 (by omega) (by omega)) ?_)
            refine s_op (o_assign (v := (.int .i64 ((i : Int) + 1))) rfl ?_)
            refine s_nil ?_
            have hH43 : Has E w36 [s30, R] := (hH39.front 1 rfl).first 2 rfl
            refine t_norm ⟨32 - (i + 1), _, rfl, ?_, ?_⟩
            · omega
            · exact ⟨(i + 1), s30, (lc.set ((((a : Int) + (i : Int)) / 8).toNat) (x26 ^^^ (pow8 (((a : Int) + (i : Int)) % 8).toNat))), rfl, hH43, (by omega), (ho32), (hwin.step (by omega) hx27), e42_0, e42_1, e42_2, e42_6, e42_7, rfl⟩
        · -- not: ((bv >>> i).toNat : Int) % 2 = 1
          refine wp_skip ?_
          refine b_norm ?_
          refine t_norm (hK20 _ _ ?_)
          refine c_region ?_
          refine s_op (o_move (v := (.int .i64 (i : Int))) e10_8 ?_)
          refine s_op (o_add (a := (i : Int)) (b := 1) rfl rfl (w64 (by omega) (by omega)) ?_)
          refine s_op (o_assign (v := (.int .i64 ((i : Int) + 1))) rfl ?_)
          refine s_nil ?_
          refine t_norm ⟨32 - (i + 1), _, rfl, ?_, ?_⟩
          · omega
          · exact ⟨(i + 1), hz, lc, rfl, hH13, (by omega), (hoz), (hwin), e10_0, e10_1, e10_2, e10_6, e10_7, rfl⟩
      · -- not: (a : Int) + (i : Int) < 8 * ((lc.length : Nat) : Int)
        refine wp_exit ?_
        refine t_exit (t_exit (x_in (?_)))
        refine t_norm (hK8 _ _ ?_)
        refine wp_seq_k fun K44 hK44 => ?_
        refine c_region ?_
        refine s_op (o_move (v := v3) e10_7 ?_)
        refine s_op (o_bstr Tryd.underlying68 Tryd.underlying5 Tryd.underlying9 rfl hoz.sl hH13 (seg_sub 0 rfl) ?_)
        refine s_op (o_assign (v := (S lc)) rfl ?_)
        refine s_nil ?_
        refine t_norm (hK44 _ _ ?_)
        refine wp_ret ?_
        refine c_ret1 Tryd.results19 (v := (S lc)) rfl ?_
        have hH45 : Has E w12 [R] := (hH13.front 1 rfl).first 1 rfl
        exact ⟨_, rfl, hwin, hH45⟩
    · -- not: 0 < ((lc.length : Nat) : Int)
      refine s_off (b' := false) 18 rfl (congrArg Value.bool (decide_eq_false h18)) rfl ?_
      refine s_off (b' := false) 18 rfl (congrArg Value.bool (decide_eq_false h18)) rfl ?_
      refine s_off (b' := false) 18 rfl (congrArg Value.bool (decide_eq_false h18)) rfl ?_
      refine s_off (b' := false) 18 rfl (congrArg Value.bool (decide_eq_false h18)) rfl ?_
      refine s_off (b' := false) 18 rfl (congrArg Value.bool (decide_eq_false h18)) rfl ?_
      refine s_off (b' := false) 18 rfl (congrArg Value.bool (decide_eq_false h18)) rfl ?_
      refine s_off (b' := false) 18 rfl (congrArg Value.bool (decide_eq_false h18)) rfl ?_
      refine s_op (o_pick_f (u := (.bool false)) ((rfl : _ = _).trans (congrArg Value.bool (decide_eq_false h18))) rfl ?_)
      refine s_nil ?_
      refine t_norm (hK16 _ _ ?_)
      refine c_false rfl rfl ?_
      refine wp_exit ?_
      refine t_exit (t_exit (x_in (?_)))
      refine t_norm (hK8 _ _ ?_)
      refine wp_seq_k fun K46 hK46 => ?_
      refine c_region ?_
      refine s_op (o_move (v := v3) e10_7 ?_)
      refine s_op (o_bstr Tryd.underlying68 Tryd.underlying5 Tryd.underlying9 rfl hoz.sl hH13 (seg_sub 0 rfl) ?_)
      refine s_op (o_assign (v := (S lc)) rfl ?_)
      refine s_nil ?_
      refine t_norm (hK46 _ _ ?_)
      refine wp_ret ?_
      refine c_ret1 Tryd.results19 (v := (S lc)) rfl ?_
      have hH47 : Has E w12 [R] := (hH13.front 1 rfl).first 1 rfl
      exact ⟨_, rfl, hwin, hH47⟩
  · -- not: (i : Int) < 32
    refine s_off (b' := false) 13 rfl (congrArg Value.bool (decide_eq_false h17)) rfl ?_
    refine s_off (b' := false) 13 rfl (congrArg Value.bool (decide_eq_false h17)) rfl ?_
    refine s_off (b' := false) 13 rfl (congrArg Value.bool (decide_eq_false h17)) rfl ?_
    refine s_op (o_pick_f (u := (.bool false)) ((rfl : _ = _).trans (congrArg Value.bool (decide_eq_false h17))) rfl ?_)
    refine s_op (o_move (v := (.bool false)) rfl ?_)
    refine s_off (b' := false) 18 rfl rfl rfl ?_
    refine s_off (b' := false) 18 rfl rfl rfl ?_
    refine s_off (b' := false) 18 rfl rfl rfl ?_
    refine s_off (b' := false) 18 rfl rfl rfl ?_
    refine s_off (b' := false) 18 rfl rfl rfl ?_
    refine s_off (b' := false) 18 rfl rfl rfl ?_
    refine s_off (b' := false) 18 rfl rfl rfl ?_
    refine s_op (o_pick_f (u := (.bool false)) rfl rfl ?_)
    refine s_nil ?_
    refine t_norm (hK16 _ _ ?_)
    refine c_false rfl rfl ?_
    refine wp_exit ?_
    refine t_exit (t_exit (x_in (?_)))
    refine t_norm (hK8 _ _ ?_)
    refine wp_seq_k fun K48 hK48 => ?_
    refine c_region ?_
    refine s_op (o_move (v := v3) e10_7 ?_)
    refine s_op (o_bstr Tryd.underlying68 Tryd.underlying5 Tryd.underlying9 rfl hoz.sl hH13 (seg_sub 0 rfl) ?_)
    refine s_op (o_assign (v := (S lc)) rfl ?_)
    refine s_nil ?_
    refine t_norm (hK48 _ _ ?_)
    refine wp_ret ?_
    refine c_ret1 Tryd.results19 (v := (S lc)) rfl ?_
    have hH49 : Has E w12 [R] := (hH13.front 1 rfl).first 1 rfl
    exact ⟨_, rfl, hwin, hH49⟩
end Go.Q
