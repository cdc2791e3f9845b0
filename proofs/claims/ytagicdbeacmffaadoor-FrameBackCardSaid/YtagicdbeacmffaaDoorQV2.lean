/-
  Parts of a walk: what functions of the program compute, each told by a theorem.
-/
import Derived.Test.YtagicdbeacmffaaDoorQV1
import Derived.Test.YtagicdbeacmffaaDoorQVJ
import Derived.Test.YtagicdbeacmffaaDoorQF3
set_option linter.unusedVariables false
set_option linter.unusedSimpArgs false
namespace Go.Q
open Go.Proofs
set_option linter.unusedVariables false
set_option maxRecDepth 100000
attribute [local irreducible] wpList OK Code.wp
set_option maxHeartbeats 4000000 in
theorem laid_c {E w : World} {R : List Hp} (hH : Has E w [R]) (hg : CellsAt R 0 0 nibV) {v : Value} {l : List (List UInt8)} (hv : Sl R 1 v l.length (l.map sV)) (hlb : ∀ x ∈ l, x.length ≤ 9223372036854775807) :
    Calls Tryd.prog 16 #[v] w fun e w' => e = .returned (S (laidS (crcS l.flatten))) ∧ Has E w' [R] := by
  refine c_enter (args := [v]) Tryd.func16 rfl Tryd.ntmps16 (by simp) ?_
  refine wp_seq_k fun K1 hK1 => ?_
  refine c_region ?_
  refine s_op (o_assign (v := (S ([] : List UInt8))) rfl ?_)
  refine s_nil ?_
  refine t_norm (hK1 _ _ ?_)
  refine wp_seq_k fun K2 hK2 => ?_
  refine c_region ?_
  refine s_op (o_move (v := v) rfl ?_)
  refine s_op (o_callf (vs := #[v]) ca14 rfl (args1 rfl) (of2_c hH.all (hg.mono (seg_sub 0 rfl)) (hv.mono (seg_sub 0 rfl)) hlb) ?_)
  rintro _ w5 ⟨rfl, hX3⟩
  refine ⟨_, rfl, ?_⟩
  have hH4 := hX3.of_all
  refine s_op (o_assign (v := (.int .u32 ((crcS l.flatten).toNat : Int))) rfl ?_)
  refine s_nil ?_
  refine t_norm (hK2 _ _ ?_)
  refine wp_seq_k fun K6 hK6 => ?_
  refine c_region ?_
  refine s_op (o_move (v := (.int .u32 ((crcS l.flatten).toNat : Int))) rfl ?_)
  refine s_op (o_conv (c := ((lo8 (crcS l.flatten)).toNat : Int)) Tryd.underlying26 Tryd.underlying5 rfl (conv_lo8 _) ?_)
  refine s_op (o_move (v := (.int .u32 ((crcS l.flatten).toNat : Int))) rfl ?_)
  refine s_op (o_shr (a := (((crcS l.flatten)).toNat : Int)) (b := ((8 : Nat) : Int)) (c := (((crcS l.flatten) >>> 8).toNat : Int)) rfl rfl (by omega) (shr32 (crcS l.flatten) 8 (by omega)) ?_)
  refine s_op (o_conv (c := ((lo8 ((crcS l.flatten) >>> 8)).toNat : Int)) Tryd.underlying26 Tryd.underlying5 rfl (conv_lo8 _) ?_)
  refine s_op (o_move (v := (.int .u32 ((crcS l.flatten).toNat : Int))) rfl ?_)
  refine s_op (o_shr (a := (((crcS l.flatten)).toNat : Int)) (b := ((16 : Nat) : Int)) (c := (((crcS l.flatten) >>> 16).toNat : Int)) rfl rfl (by omega) (shr32 (crcS l.flatten) 16 (by omega)) ?_)
  refine s_op (o_conv (c := ((lo8 ((crcS l.flatten) >>> 16)).toNat : Int)) Tryd.underlying26 Tryd.underlying5 rfl (conv_lo8 _) ?_)
  refine s_op (o_move (v := (.int .u32 ((crcS l.flatten).toNat : Int))) rfl ?_)
  refine s_op (o_shr (a := (((crcS l.flatten)).toNat : Int)) (b := ((24 : Nat) : Int)) (c := (((crcS l.flatten) >>> 24).toNat : Int)) rfl rfl (by omega) (shr32 (crcS l.flatten) 24 (by omega)) ?_)
  refine s_op (o_conv (c := ((lo8 ((crcS l.flatten) >>> 24)).toNat : Int)) Tryd.underlying26 Tryd.underlying5 rfl (conv_lo8 _) ?_)
  refine s_op (o_buildSlice (ps := #[(0, (bV (lo8 (crcS l.flatten)))), (1, (bV (lo8 ((crcS l.flatten) >>> 8)))), (2, (bV (lo8 ((crcS l.flatten) >>> 16)))), (3, (bV (lo8 ((crcS l.flatten) >>> 24))))]) (cells := #[(bV (lo8 (crcS l.flatten))), (bV (lo8 ((crcS l.flatten) >>> 8))), (bV (lo8 ((crcS l.flatten) >>> 16))), (bV (lo8 ((crcS l.flatten) >>> 24)))]) Tryd.underlying68 ti5 (by decide) (parts4 rfl rfl rfl rfl) (by kernel_rfl) hH4 fun b7 w8 hH9 => ?_)
  refine s_op (o_bstr Tryd.underlying68 Tryd.underlying5 Tryd.underlying9 rfl (sl_lit (f := bV) (l := [(lo8 (crcS l.flatten)), (lo8 ((crcS l.flatten) >>> 8)), (lo8 ((crcS l.flatten) >>> 16)), (lo8 ((crcS l.flatten) >>> 24))]) rfl rfl (by simp)) hH9 (seg_sub 0 rfl) ?_)
  refine s_op (o_assign (v := (S [(lo8 (crcS l.flatten)), (lo8 ((crcS l.flatten) >>> 8)), (lo8 ((crcS l.flatten) >>> 16)), (lo8 ((crcS l.flatten) >>> 24))])) rfl ?_)
  refine s_nil ?_
  refine t_norm (hK6 _ _ ?_)
  refine wp_ret ?_
  refine c_ret1 Tryd.results16 (v := (S [(lo8 (crcS l.flatten)), (lo8 ((crcS l.flatten) >>> 8)), (lo8 ((crcS l.flatten) >>> 16)), (lo8 ((crcS l.flatten) >>> 24))])) rfl ?_
  have hH10 : Has E w8 [R] := (hH9.front 1 rfl).first 1 rfl
  exact ⟨rfl, hH10⟩
set_option maxHeartbeats 4000000 in
theorem reflaid_c {E w : World} {R : List Hp} (hH : Has E w [R]) (t : List UInt8) (hl : t.length ≤ 9223372036854775807) :
    Calls Tryd.prog 17 #[(S t)] w fun e w' => e = .returned (S (laidS (crcS t))) ∧ Has E w' [R] := by
  refine c_enter (args := [(S t)]) Tryd.func17 rfl Tryd.ntmps17 (by simp) ?_
  refine wp_seq_k fun K1 hK1 => ?_
  refine c_region ?_
  refine s_op (o_assign (v := (S ([] : List UInt8))) rfl ?_)
  refine s_nil ?_
  refine t_norm (hK1 _ _ ?_)
  refine wp_seq_k fun K2 hK2 => ?_
  refine c_region ?_
  refine s_op (o_move (v := (S t)) rfl ?_)
  refine s_op (o_callf (vs := #[(S t)]) ca15 rfl (args1 rfl) (refsum_c hH.all t hl) ?_)
  rintro _ w5 ⟨rfl, hX3⟩
  refine ⟨_, rfl, ?_⟩
  have hH4 := hX3.of_all
  refine s_op (o_assign (v := (.int .u32 ((crcS t).toNat : Int))) rfl ?_)
  refine s_nil ?_
  refine t_norm (hK2 _ _ ?_)
  refine wp_seq_k fun K6 hK6 => ?_
  refine c_region ?_
  refine s_op (o_move (v := (.int .u32 ((crcS t).toNat : Int))) rfl ?_)
  refine s_op (o_rem (a := ((crcS t).toNat : Int)) (b := 256) (c := ((crcS t).toNat : Int) % 256) rfl rfl (by omega) ((Int.tmod_eq_emod_of_nonneg (by first | exact Int.natCast_nonneg _ | omega))) ?_)
  refine s_op (o_conv (c := ((by8 (((crcS t).toNat : Int) % 256)).toNat : Int)) Tryd.underlying26 Tryd.underlying5 rfl (wrap_by8 _) ?_)
  refine s_op (o_move (v := (.int .u32 ((crcS t).toNat : Int))) rfl ?_)
  refine s_op (o_quo (a := (((crcS t)).toNat : Int)) (b := ((256 : Nat) : Int)) (c := (((crcS t) >>> 8).toNat : Int)) rfl rfl (by decide) (quo32 (crcS t) 256 8 (by decide)) ?_)
  refine s_op (o_rem (a := (((crcS t) >>> 8).toNat : Int)) (b := 256) (c := (((crcS t) >>> 8).toNat : Int) % 256) rfl rfl (by omega) ((Int.tmod_eq_emod_of_nonneg (by first | exact Int.natCast_nonneg _ | omega))) ?_)
  refine s_op (o_conv (c := ((by8 ((((crcS t) >>> 8).toNat : Int) % 256)).toNat : Int)) Tryd.underlying26 Tryd.underlying5 rfl (wrap_by8 _) ?_)
  refine s_op (o_move (v := (.int .u32 ((crcS t).toNat : Int))) rfl ?_)
  refine s_op (o_quo (a := (((crcS t)).toNat : Int)) (b := ((65536 : Nat) : Int)) (c := (((crcS t) >>> 16).toNat : Int)) rfl rfl (by decide) (quo32 (crcS t) 65536 16 (by decide)) ?_)
  refine s_op (o_rem (a := (((crcS t) >>> 16).toNat : Int)) (b := 256) (c := (((crcS t) >>> 16).toNat : Int) % 256) rfl rfl (by omega) ((Int.tmod_eq_emod_of_nonneg (by first | exact Int.natCast_nonneg _ | omega))) ?_)
  refine s_op (o_conv (c := ((by8 ((((crcS t) >>> 16).toNat : Int) % 256)).toNat : Int)) Tryd.underlying26 Tryd.underlying5 rfl (wrap_by8 _) ?_)
  refine s_op (o_move (v := (.int .u32 ((crcS t).toNat : Int))) rfl ?_)
  refine s_op (o_quo (a := (((crcS t)).toNat : Int)) (b := ((16777216 : Nat) : Int)) (c := (((crcS t) >>> 24).toNat : Int)) rfl rfl (by decide) (quo32 (crcS t) 16777216 24 (by decide)) ?_)
  refine s_op (o_conv (c := ((lo8 ((crcS t) >>> 24)).toNat : Int)) Tryd.underlying26 Tryd.underlying5 rfl (conv_lo8 _) ?_)
  refine s_op (o_buildSlice (ps := #[(0, (bV (by8 (((crcS t).toNat : Int) % 256)))), (1, (bV (by8 ((((crcS t) >>> 8).toNat : Int) % 256)))), (2, (bV (by8 ((((crcS t) >>> 16).toNat : Int) % 256)))), (3, (bV (lo8 ((crcS t) >>> 24))))]) (cells := #[(bV (by8 (((crcS t).toNat : Int) % 256))), (bV (by8 ((((crcS t) >>> 8).toNat : Int) % 256))), (bV (by8 ((((crcS t) >>> 16).toNat : Int) % 256))), (bV (lo8 ((crcS t) >>> 24)))]) Tryd.underlying68 ti5 (by decide) (parts4 rfl rfl rfl rfl) (by kernel_rfl) hH4 fun b7 w8 hH9 => ?_)
  refine s_op (o_bstr Tryd.underlying68 Tryd.underlying5 Tryd.underlying9 rfl (sl_lit (f := bV) (l := [(by8 (((crcS t).toNat : Int) % 256)), (by8 ((((crcS t) >>> 8).toNat : Int) % 256)), (by8 ((((crcS t) >>> 16).toNat : Int) % 256)), (lo8 ((crcS t) >>> 24))]) rfl rfl (by simp)) hH9 (seg_sub 0 rfl) ?_)
  refine s_op (o_assign (v := (S [(by8 (((crcS t).toNat : Int) % 256)), (by8 ((((crcS t) >>> 8).toNat : Int) % 256)), (by8 ((((crcS t) >>> 16).toNat : Int) % 256)), (lo8 ((crcS t) >>> 24))])) rfl ?_)
  refine s_nil ?_
  refine t_norm (hK6 _ _ ?_)
  refine wp_ret ?_
  refine c_ret1 Tryd.results17 (v := (S [(by8 (((crcS t).toNat : Int) % 256)), (by8 ((((crcS t) >>> 8).toNat : Int) % 256)), (by8 ((((crcS t) >>> 16).toNat : Int) % 256)), (lo8 ((crcS t) >>> 24))])) rfl ?_
  have hH10 : Has E w8 [R] := (hH9.front 1 rfl).first 1 rfl
  exact ⟨by rw [laidS_ref], hH10⟩
set_option maxHeartbeats 4000000 in
theorem seal_c {E w : World} {R : List Hp} (hH : Has E w [R]) (hg : CellsAt R 0 0 nibV) {v : Value} {l : List (List UInt8)} (hv : Sl R 1 v l.length (l.map sV)) (hn : l.length ≤ 1000000) (hl : l.flatten.length ≤ 1000000000) :
    Calls Tryd.prog 18 #[v] w fun e w' => e = .returned (S (sealS l.flatten)) ∧ Has E w' [R] := by
  refine c_enter (args := [v]) Tryd.func18 rfl Tryd.ntmps18 (by simp) ?_
  refine wp_seq_k fun K1 hK1 => ?_
  refine c_region ?_
  refine s_op (o_assign (v := (S ([] : List UInt8))) rfl ?_)
  refine s_nil ?_
  refine t_norm (hK1 _ _ ?_)
  refine wp_seq_k fun K2 hK2 => ?_
  refine c_region ?_
  refine s_op (o_move (v := v) rfl ?_)
  refine s_op (o_callf (vs := #[v, (S ([] : List UInt8))]) ca36 rfl (args2 rfl rfl) (join_c hH.all (hv.mono (seg_sub 0 rfl)) hn hl) ?_)
  rintro _ w5 ⟨rfl, hX3⟩
  refine ⟨_, rfl, ?_⟩
  have hH4 := hX3.of_all
  refine s_op (o_move (v := v) rfl ?_)
  refine s_op (o_callf (vs := #[v]) ca16 rfl (args1 rfl) (laid_c hH4.all (hg.mono (seg_sub 0 rfl)) (hv.mono (seg_sub 0 rfl)) (fun x hx => by have := flat_le hx; omega)) ?_)
  rintro _ w8 ⟨rfl, hX6⟩
  refine ⟨_, rfl, ?_⟩
  have hH7 := hX6.of_all
  refine s_op (o_sadd rfl rfl (by rw [laidS_len]; omega) ?_)
  refine s_op (o_assign (v := (S (l.flatten ++ (laidS (crcS l.flatten))))) rfl ?_)
  refine s_nil ?_
  refine t_norm (hK2 _ _ ?_)
  refine wp_ret ?_
  refine c_ret1 Tryd.results18 (v := (S (l.flatten ++ (laidS (crcS l.flatten))))) rfl ?_
  exact ⟨rfl, hH7⟩
set_option maxHeartbeats 4000000 in
theorem open_c {E w : World} {R : List Hp} (hH : Has E w [R]) (hg : CellsAt R 0 0 nibV) (t : List UInt8) (hl : t.length ≤ 9223372036854775807) :
    Calls Tryd.prog 20 #[(S t)] w fun e w' => e = .returned (.tuple #[S (openS t).1, .bool (openS t).2]) ∧ Has E w' [R] := by
  refine c_enter (args := [(S t)]) Tryd.func20 rfl Tryd.ntmps20 (by simp) ?_
  refine wp_seq_k fun K1 hK1 => ?_
  refine c_region ?_
  refine s_op (o_assign (v := (S ([] : List UInt8))) rfl ?_)
  refine s_op (o_assign (v := (.bool false)) rfl ?_)
  refine s_nil ?_
  refine t_norm (hK1 _ _ ?_)
  refine wp_seq_k fun K2 hK2 => ?_
  refine c_region ?_
  refine s_op (o_move (v := (S t)) rfl ?_)
  refine s_op (o_slen Tryd.underlying9 rfl ?_)
  refine s_op (o_sub (a := (t.length : Int)) (b := 4) rfl rfl (w64 (by omega) (by omega)) ?_)
  refine s_op (o_assign (v := (.int .i64 ((t.length : Int) - 4))) rfl ?_)
  refine s_nil ?_
  refine t_norm (hK2 _ _ ?_)
  refine wp_seq_k fun K3 hK3 => ?_
  refine wp_seq_k fun K4 hK4 => ?_
  by_cases h5 : (t.length : Int) - 4 < 0
  · -- (t.length : Int) - 4 < 0
    refine c_flow3 [R] (fun i_ => match i_ with | _ => []) (fun i_ v_ h_ m_ => match i_ with | 0 => v_ = (.int .i64 ((t.length : Int) - 4)) ∧ h_ = [] | 1 => v_ = (.bool (decide ((t.length : Int) - 4 < 0))) ∧ h_ = [] | 2 => v_ = (.bool (decide ((t.length : Int) - 4 < 0))) ∧ h_ = [] | 3 => v_ = undef ∧ h_ = [] | 4 => v_ = undef ∧ h_ = [] | 5 => v_ = undef ∧ h_ = [] | 6 => v_ = undef ∧ h_ = [] | 7 => v_ = undef ∧ h_ = [] | 8 => v_ = undef ∧ h_ = [] | 9 => v_ = undef ∧ h_ = [] | 10 => v_ = undef ∧ h_ = [] | 11 => v_ = undef ∧ h_ = [] | 12 => v_ = (.bool true) ∧ h_ = [] | _ => True) mixed (by kernel_rfl) (flow_has (cs := []) hH rfl) ?_ ?_
    · intro i_ o_ ho_ r' w' G hs_ ht
      match i_, ho_ with
      | 0, ho_ =>
        obtain rfl := Option.some.inj ho_
        have e4 : r' 4 = (.int .i64 ((t.length : Int) - 4)) := ht.was 4 (by kernel_rfl)
        have hG := ht.has.drop
        refine GOK.free rfl ?_
        refine o_move (v := (.int .i64 ((t.length : Int) - 4))) e4 ?_
        exact ⟨_, ⟨rfl, rfl⟩, hG⟩
      | 1, ho_ =>
        obtain rfl := Option.some.inj ho_
        obtain ⟨e8, eh0⟩ := (ht.done 0 _ rfl rfl).1
        have hG := ht.has.drop
        refine GOK.free rfl ?_
        refine o_lss (a := (t.length : Int) - 4) (b := 0) e8 rfl ?_
        exact ⟨_, ⟨rfl, rfl⟩, hG⟩
      | 2, ho_ =>
        obtain rfl := Option.some.inj ho_
        obtain ⟨e9, eh1⟩ := (ht.done 1 _ rfl rfl).1
        have hG := ht.has.drop
        refine GOK.free rfl ?_
        refine o_move (v := (.bool (decide ((t.length : Int) - 4 < 0)))) e9 ?_
        exact ⟨_, ⟨rfl, rfl⟩, hG⟩
      | 3, ho_ =>
        obtain rfl := Option.some.inj ho_
        obtain ⟨e10, eh2⟩ := (ht.done 2 _ rfl rfl).1
        have hG := ht.has.drop
        refine GOK.off (b' := true) rfl rfl (Eq.trans e10 (congrArg Value.bool (decide_eq_true h5))) rfl ?_
        exact ⟨_, ⟨rfl, rfl⟩, ht.has⟩
      | 4, ho_ =>
        obtain rfl := Option.some.inj ho_
        obtain ⟨e10, eh2⟩ := (ht.done 2 _ rfl rfl).1
        have hG := ht.has.drop
        refine GOK.off (b' := true) rfl rfl (Eq.trans e10 (congrArg Value.bool (decide_eq_true h5))) rfl ?_
        exact ⟨_, ⟨rfl, rfl⟩, ht.has⟩
      | 5, ho_ =>
        obtain rfl := Option.some.inj ho_
        obtain ⟨e10, eh2⟩ := (ht.done 2 _ rfl rfl).1
        have hG := ht.has.drop
        refine GOK.off (b' := true) rfl rfl (Eq.trans e10 (congrArg Value.bool (decide_eq_true h5))) rfl ?_
        exact ⟨_, ⟨rfl, rfl⟩, ht.has⟩
      | 6, ho_ =>
        obtain rfl := Option.some.inj ho_
        obtain ⟨e10, eh2⟩ := (ht.done 2 _ rfl rfl).1
        have hG := ht.has.drop
        refine GOK.off (b' := true) rfl rfl (Eq.trans e10 (congrArg Value.bool (decide_eq_true h5))) rfl ?_
        exact ⟨_, ⟨rfl, rfl⟩, ht.has⟩
      | 7, ho_ =>
        obtain rfl := Option.some.inj ho_
        obtain ⟨e10, eh2⟩ := (ht.done 2 _ rfl rfl).1
        have hG := ht.has.drop
        refine GOK.off (b' := true) rfl rfl (Eq.trans e10 (congrArg Value.bool (decide_eq_true h5))) rfl ?_
        exact ⟨_, ⟨rfl, rfl⟩, ht.has⟩
      | 8, ho_ =>
        obtain rfl := Option.some.inj ho_
        obtain ⟨e10, eh2⟩ := (ht.done 2 _ rfl rfl).1
        have hG := ht.has.drop
        refine GOK.off (b' := true) rfl rfl (Eq.trans e10 (congrArg Value.bool (decide_eq_true h5))) rfl ?_
        exact ⟨_, ⟨rfl, rfl⟩, ht.has⟩
      | 9, ho_ =>
        obtain rfl := Option.some.inj ho_
        obtain ⟨e10, eh2⟩ := (ht.done 2 _ rfl rfl).1
        have hG := ht.has.drop
        refine GOK.off (b' := true) rfl rfl (Eq.trans e10 (congrArg Value.bool (decide_eq_true h5))) rfl ?_
        exact ⟨_, ⟨rfl, rfl⟩, ht.has⟩
      | 10, ho_ =>
        obtain rfl := Option.some.inj ho_
        obtain ⟨e10, eh2⟩ := (ht.done 2 _ rfl rfl).1
        have hG := ht.has.drop
        refine GOK.off (b' := true) rfl rfl (Eq.trans e10 (congrArg Value.bool (decide_eq_true h5))) rfl ?_
        exact ⟨_, ⟨rfl, rfl⟩, ht.has⟩
      | 11, ho_ =>
        obtain rfl := Option.some.inj ho_
        obtain ⟨e10, eh2⟩ := (ht.done 2 _ rfl rfl).1
        have hG := ht.has.drop
        refine GOK.off (b' := true) rfl rfl (Eq.trans e10 (congrArg Value.bool (decide_eq_true h5))) rfl ?_
        exact ⟨_, ⟨rfl, rfl⟩, ht.has⟩
      | 12, ho_ =>
        obtain rfl := Option.some.inj ho_
        obtain ⟨e10, eh2⟩ := (ht.done 2 _ rfl rfl).1
        obtain ⟨e19, eh11⟩ := (ht.done 11 _ rfl rfl).1
        have hG := ht.has.drop
        refine GOK.free rfl ?_
        refine o_pick_t (u := (.bool true)) ((e10 : _ = _).trans (congrArg Value.bool (decide_eq_true h5))) rfl ?_
        exact ⟨_, ⟨rfl, rfl⟩, hG⟩
      | i_ + 13, ho_ => exact absurd ho_ (by simp)
    · intro vs6 hs7 w8 hT9 hH10
      obtain ⟨e0_, eh0_⟩ := hT9 0 _ rfl
      obtain ⟨e1_, eh1_⟩ := hT9 1 _ rfl
      obtain ⟨e2_, eh2_⟩ := hT9 2 _ rfl
      obtain ⟨e3_, eh3_⟩ := hT9 3 _ rfl
      obtain ⟨e4_, eh4_⟩ := hT9 4 _ rfl
      obtain ⟨e5_, eh5_⟩ := hT9 5 _ rfl
      obtain ⟨e6_, eh6_⟩ := hT9 6 _ rfl
      obtain ⟨e7_, eh7_⟩ := hT9 7 _ rfl
      obtain ⟨e8_, eh8_⟩ := hT9 8 _ rfl
      obtain ⟨e9_, eh9_⟩ := hT9 9 _ rfl
      obtain ⟨e10_, eh10_⟩ := hT9 10 _ rfl
      obtain ⟨e11_, eh11_⟩ := hT9 11 _ rfl
      obtain ⟨e12_, eh12_⟩ := hT9 12 _ rfl
      have hH11 : Has E w8 ([R] ++ []) := flow_back (cs := []) hH10 (by show (hs7 0 ++ (hs7 1 ++ (hs7 2 ++ (hs7 3 ++ (hs7 4 ++ (hs7 5 ++ (hs7 6 ++ (hs7 7 ++ (hs7 8 ++ (hs7 9 ++ (hs7 10 ++ (hs7 11 ++ (hs7 12 ++ []))))))))))))) = _; rw [eh0_, eh1_, eh2_, eh3_, eh4_, eh5_, eh6_, eh7_, eh8_, eh9_, eh10_, eh11_, eh12_]; rfl)
      generalize hr13 : puts vs6 _ 0 _ = r12
      have e14_0 : r12 0 = (S t) := by rw [← hr13]; exact rfl
      have e14_2 : r12 2 = (S ([] : List UInt8)) := by rw [← hr13]; exact rfl
      have e14_3 : r12 3 = (.bool false) := by rw [← hr13]; exact rfl
      have e14_4 : r12 4 = (.int .i64 ((t.length : Int) - 4)) := by rw [← hr13]; exact rfl
      have e14_20 : r12 20 = (.bool true) := by rw [← hr13]; exact e12_
      refine t_norm (hK4 _ _ ?_)
      refine c_true e14_20 rfl ?_
      refine wp_seq_k fun K15 hK15 => ?_
      refine c_region ?_
      refine s_op (o_assign (v := (S ([] : List UInt8))) rfl ?_)
      refine s_op (o_assign (v := (.bool false)) rfl ?_)
      refine s_nil ?_
      refine t_norm (hK15 _ _ ?_)
      refine wp_ret ?_
      refine t_ret (c_ret2 Tryd.results20 (v := (S ([] : List UInt8))) rfl (x := (.bool false)) rfl ?_)
      exact ⟨by rw [openS_no (by first | exact .inl (by omega) | exact .inr (by assumption))], hH11⟩
  · -- not: (t.length : Int) - 4 < 0
    refine c_flow3 [R] (fun i_ => match i_ with | _ => []) (fun i_ v_ h_ m_ => match i_ with | 0 => v_ = (.int .i64 ((t.length : Int) - 4)) ∧ h_ = [] | 1 => v_ = (.bool (decide ((t.length : Int) - 4 < 0))) ∧ h_ = [] | 2 => v_ = (.bool (decide ((t.length : Int) - 4 < 0))) ∧ h_ = [] | 3 => v_ = (S t) ∧ h_ = [] | 4 => v_ = (.int .i64 ((t.length : Int) - 4)) ∧ h_ = [] | 5 => v_ = (S (t.take ((t.length : Int) - 4).toNat)) ∧ h_ = [] | 6 => ∃ (b16 : Nat), v_ = (.slice (some ⟨b16, 0, none⟩) 1 1) ∧ h_ = [Hp.one b16 (.cells #[(S (t.take ((t.length : Int) - 4).toNat))] 9 (0, 0))] | 7 => v_ = (S (laidS (crcS [t.take ((t.length : Int) - 4).toNat].flatten))) ∧ h_ = [] | 8 => v_ = (S t) ∧ h_ = [] | 9 => v_ = (.int .i64 ((t.length : Int) - 4)) ∧ h_ = [] | 10 => v_ = (S (t.drop ((t.length : Int) - 4).toNat)) ∧ h_ = [] | 11 => v_ = (.bool (decide ((laidS (crcS [t.take ((t.length : Int) - 4).toNat].flatten)) ≠ t.drop ((t.length : Int) - 4).toNat))) ∧ h_ = [] | 12 => v_ = (.bool (decide ((laidS (crcS [t.take ((t.length : Int) - 4).toNat].flatten)) ≠ t.drop ((t.length : Int) - 4).toNat))) ∧ h_ = [] | _ => True) mixed (by kernel_rfl) (flow_has (cs := []) hH rfl) ?_ ?_
    · intro i_ o_ ho_ r' w' G hs_ ht
      match i_, ho_ with
      | 0, ho_ =>
        obtain rfl := Option.some.inj ho_
        have e4 : r' 4 = (.int .i64 ((t.length : Int) - 4)) := ht.was 4 (by kernel_rfl)
        have hG := ht.has.drop
        refine GOK.free rfl ?_
        refine o_move (v := (.int .i64 ((t.length : Int) - 4))) e4 ?_
        exact ⟨_, ⟨rfl, rfl⟩, hG⟩
      | 1, ho_ =>
        obtain rfl := Option.some.inj ho_
        obtain ⟨e8, eh0⟩ := (ht.done 0 _ rfl rfl).1
        have hG := ht.has.drop
        refine GOK.free rfl ?_
        refine o_lss (a := (t.length : Int) - 4) (b := 0) e8 rfl ?_
        exact ⟨_, ⟨rfl, rfl⟩, hG⟩
      | 2, ho_ =>
        obtain rfl := Option.some.inj ho_
        obtain ⟨e9, eh1⟩ := (ht.done 1 _ rfl rfl).1
        have hG := ht.has.drop
        refine GOK.free rfl ?_
        refine o_move (v := (.bool (decide ((t.length : Int) - 4 < 0)))) e9 ?_
        exact ⟨_, ⟨rfl, rfl⟩, hG⟩
      | 3, ho_ =>
        obtain rfl := Option.some.inj ho_
        obtain ⟨e10, eh2⟩ := (ht.done 2 _ rfl rfl).1
        have e0 : r' 0 = (S t) := ht.was 0 (by kernel_rfl)
        have hG := ht.has.drop
        refine GOK.on rfl rfl (Eq.trans e10 (congrArg Value.bool (decide_eq_false h5))) ?_
        refine o_move (v := (S t)) e0 ?_
        exact ⟨_, ⟨rfl, rfl⟩, hG⟩
      | 4, ho_ =>
        obtain rfl := Option.some.inj ho_
        obtain ⟨e10, eh2⟩ := (ht.done 2 _ rfl rfl).1
        have e4 : r' 4 = (.int .i64 ((t.length : Int) - 4)) := ht.was 4 (by kernel_rfl)
        have hG := ht.has.drop
        refine GOK.on rfl rfl (Eq.trans e10 (congrArg Value.bool (decide_eq_false h5))) ?_
        refine o_move (v := (.int .i64 ((t.length : Int) - 4))) e4 ?_
        exact ⟨_, ⟨rfl, rfl⟩, hG⟩
      | 5, ho_ =>
        obtain rfl := Option.some.inj ho_
        obtain ⟨e10, eh2⟩ := (ht.done 2 _ rfl rfl).1
        obtain ⟨e11, eh3⟩ := (ht.done 3 _ rfl rfl).1
        obtain ⟨e12, eh4⟩ := (ht.done 4 _ rfl rfl).1
        have hG := ht.has.drop
        refine GOK.on rfl rfl (Eq.trans e10 (congrArg Value.bool (decide_eq_false h5))) ?_
        refine o_ssl_h Tryd.underlying9 e11 e12 (by omega) (by omega) ?_
        exact ⟨_, ⟨rfl, rfl⟩, hG⟩
      | 6, ho_ =>
        obtain rfl := Option.some.inj ho_
        obtain ⟨e10, eh2⟩ := (ht.done 2 _ rfl rfl).1
        obtain ⟨e13, eh5⟩ := (ht.done 5 _ rfl rfl).1
        have hG := ht.has.drop
        refine GOK.on rfl rfl (Eq.trans e10 (congrArg Value.bool (decide_eq_false h5))) ?_
        refine o_buildSlice (ps := #[(0, (S (t.take ((t.length : Int) - 4).toNat)))]) (cells := #[(S (t.take ((t.length : Int) - 4).toNat))]) Tryd.underlying22 ti9 (by decide) (parts1 e13) (by kernel_rfl) hG fun b16 w17 hH18 => ?_
        exact ⟨_, ⟨b16, rfl, rfl⟩, hH18⟩
      | 7, ho_ =>
        obtain rfl := Option.some.inj ho_
        obtain ⟨e10, eh2⟩ := (ht.done 2 _ rfl rfl).1
        obtain ⟨b16, e14, eh6⟩ := (ht.done 6 _ rfl rfl).1
        have hG := ht.has.drop
        refine GOK.on rfl rfl (Eq.trans e10 (congrArg Value.bool (decide_eq_false h5))) ?_
        refine o_callf (vs := #[(.slice (some ⟨b16, 0, none⟩) 1 1)]) ca16 rfl (args1 e14) (laid_c hG.all (hg.mono (ht.fr R (by simp))) ((sl_lit (f := sV) (l := [t.take ((t.length : Int) - 4).toNat]) rfl rfl (by simp)).mono (eh6 ▸ (ht.done 6 _ rfl rfl).2)) (fun x hx => by rw [List.mem_singleton.1 hx, List.length_take]; omega)) ?_
        rintro _ w21 ⟨rfl, hX19⟩
        refine ⟨_, rfl, ?_⟩
        have hH20 := hX19.of_all
        exact ⟨_, ⟨rfl, rfl⟩, hH20⟩
      | 8, ho_ =>
        obtain rfl := Option.some.inj ho_
        obtain ⟨e10, eh2⟩ := (ht.done 2 _ rfl rfl).1
        have e0 : r' 0 = (S t) := ht.was 0 (by kernel_rfl)
        have hG := ht.has.drop
        refine GOK.on rfl rfl (Eq.trans e10 (congrArg Value.bool (decide_eq_false h5))) ?_
        refine o_move (v := (S t)) e0 ?_
        exact ⟨_, ⟨rfl, rfl⟩, hG⟩
      | 9, ho_ =>
        obtain rfl := Option.some.inj ho_
        obtain ⟨e10, eh2⟩ := (ht.done 2 _ rfl rfl).1
        have e4 : r' 4 = (.int .i64 ((t.length : Int) - 4)) := ht.was 4 (by kernel_rfl)
        have hG := ht.has.drop
        refine GOK.on rfl rfl (Eq.trans e10 (congrArg Value.bool (decide_eq_false h5))) ?_
        refine o_move (v := (.int .i64 ((t.length : Int) - 4))) e4 ?_
        exact ⟨_, ⟨rfl, rfl⟩, hG⟩
      | 10, ho_ =>
        obtain rfl := Option.some.inj ho_
        obtain ⟨e10, eh2⟩ := (ht.done 2 _ rfl rfl).1
        obtain ⟨e16, eh8⟩ := (ht.done 8 _ rfl rfl).1
        obtain ⟨e17, eh9⟩ := (ht.done 9 _ rfl rfl).1
        have hG := ht.has.drop
        refine GOK.on rfl rfl (Eq.trans e10 (congrArg Value.bool (decide_eq_false h5))) ?_
        refine o_ssl_l Tryd.underlying9 e16 e17 (by omega) (by omega) ?_
        exact ⟨_, ⟨rfl, rfl⟩, hG⟩
      | 11, ho_ =>
        obtain rfl := Option.some.inj ho_
        obtain ⟨e10, eh2⟩ := (ht.done 2 _ rfl rfl).1
        obtain ⟨b16, e14, eh6⟩ := (ht.done 6 _ rfl rfl).1
        obtain ⟨e15, eh7⟩ := (ht.done 7 _ rfl rfl).1
        obtain ⟨e18, eh10⟩ := (ht.done 10 _ rfl rfl).1
        have hG := ht.has.drop
        refine GOK.on rfl rfl (Eq.trans e10 (congrArg Value.bool (decide_eq_false h5))) ?_
        refine o_sneq (a := (laidS (crcS [t.take ((t.length : Int) - 4).toNat].flatten))) (b := t.drop ((t.length : Int) - 4).toNat) e15 e18 ?_
        exact ⟨_, ⟨rfl, rfl⟩, hG⟩
      | 12, ho_ =>
        obtain rfl := Option.some.inj ho_
        obtain ⟨e10, eh2⟩ := (ht.done 2 _ rfl rfl).1
        obtain ⟨b16, e14, eh6⟩ := (ht.done 6 _ rfl rfl).1
        obtain ⟨e19, eh11⟩ := (ht.done 11 _ rfl rfl).1
        have hG := ht.has.drop
        refine GOK.free rfl ?_
        refine o_pick_f (u := (.bool (decide ((laidS (crcS [t.take ((t.length : Int) - 4).toNat].flatten)) ≠ t.drop ((t.length : Int) - 4).toNat)))) ((e10 : _ = _).trans (congrArg Value.bool (decide_eq_false h5))) e19 ?_
        exact ⟨_, ⟨rfl, rfl⟩, hG⟩
      | i_ + 13, ho_ => exact absurd ho_ (by simp)
    · intro vs22 hs23 w24 hT25 hH26
      obtain ⟨e0_, eh0_⟩ := hT25 0 _ rfl
      obtain ⟨e1_, eh1_⟩ := hT25 1 _ rfl
      obtain ⟨e2_, eh2_⟩ := hT25 2 _ rfl
      obtain ⟨e3_, eh3_⟩ := hT25 3 _ rfl
      obtain ⟨e4_, eh4_⟩ := hT25 4 _ rfl
      obtain ⟨e5_, eh5_⟩ := hT25 5 _ rfl
      obtain ⟨b16, e6_, eh6_⟩ := hT25 6 _ rfl
      obtain ⟨e7_, eh7_⟩ := hT25 7 _ rfl
      obtain ⟨e8_, eh8_⟩ := hT25 8 _ rfl
      obtain ⟨e9_, eh9_⟩ := hT25 9 _ rfl
      obtain ⟨e10_, eh10_⟩ := hT25 10 _ rfl
      obtain ⟨e11_, eh11_⟩ := hT25 11 _ rfl
      obtain ⟨e12_, eh12_⟩ := hT25 12 _ rfl
      have hH27 : Has E w24 ([R] ++ [[Hp.one b16 (.cells #[(S (t.take ((t.length : Int) - 4).toNat))] 9 (0, 0))]]) := flow_back (cs := [[Hp.one b16 (.cells #[(S (t.take ((t.length : Int) - 4).toNat))] 9 (0, 0))]]) hH26 (by show (hs23 0 ++ (hs23 1 ++ (hs23 2 ++ (hs23 3 ++ (hs23 4 ++ (hs23 5 ++ (hs23 6 ++ (hs23 7 ++ (hs23 8 ++ (hs23 9 ++ (hs23 10 ++ (hs23 11 ++ (hs23 12 ++ []))))))))))))) = _; rw [eh0_, eh1_, eh2_, eh3_, eh4_, eh5_, eh6_, eh7_, eh8_, eh9_, eh10_, eh11_, eh12_]; rfl)
      generalize hr29 : puts vs22 _ 0 _ = r28
      have e30_0 : r28 0 = (S t) := by rw [← hr29]; exact rfl
      have e30_2 : r28 2 = (S ([] : List UInt8)) := by rw [← hr29]; exact rfl
      have e30_3 : r28 3 = (.bool false) := by rw [← hr29]; exact rfl
      have e30_4 : r28 4 = (.int .i64 ((t.length : Int) - 4)) := by rw [← hr29]; exact rfl
      have e30_20 : r28 20 = (.bool (decide ((laidS (crcS [t.take ((t.length : Int) - 4).toNat].flatten)) ≠ t.drop ((t.length : Int) - 4).toNat))) := by rw [← hr29]; exact e12_
      refine t_norm (hK4 _ _ ?_)
      refine c_cond e30_20 (fun h31 => ?_) (fun h31 => ?_)
      · -- (laidS (crcS [t.take ((t.length : Int) - 4).toNat].flatten)) ≠ t.drop ((t.length : Int) - 4).toNat
        refine wp_seq_k fun K32 hK32 => ?_
        refine c_region ?_
        refine s_op (o_assign (v := (S ([] : List UInt8))) rfl ?_)
        refine s_op (o_assign (v := (.bool false)) rfl ?_)
        refine s_nil ?_
        refine t_norm (hK32 _ _ ?_)
        refine wp_ret ?_
        refine t_ret (c_ret2 Tryd.results20 (v := (S ([] : List UInt8))) rfl (x := (.bool false)) rfl ?_)
        have hH33 : Has E w24 [R] := hH27.first 1 rfl
        exact ⟨by rw [openS_no (by first | exact .inl (by omega) | exact .inr (by assumption))], hH33⟩
      · -- not: (laidS (crcS [t.take ((t.length : Int) - 4).toNat].flatten)) ≠ t.drop ((t.length : Int) - 4).toNat
        refine wp_skip ?_
        refine t_norm (hK3 _ _ ?_)
        refine wp_seq_k fun K34 hK34 => ?_
        refine c_region ?_
        refine s_op (o_move (v := (S t)) e30_0 ?_)
        refine s_op (o_move (v := (.int .i64 ((t.length : Int) - 4))) e30_4 ?_)
        refine s_op (o_ssl_h Tryd.underlying9 rfl rfl (by omega) (by omega) ?_)
        refine s_op (o_assign (v := (S (t.take ((t.length : Int) - 4).toNat))) rfl ?_)
        refine s_op (o_assign (v := (.bool true)) rfl ?_)
        refine s_nil ?_
        refine t_norm (hK34 _ _ ?_)
        refine wp_ret ?_
        refine c_ret2 Tryd.results20 (v := (S (t.take ((t.length : Int) - 4).toNat))) rfl (x := (.bool true)) rfl ?_
        have hH35 : Has E w24 [R] := hH27.first 1 rfl
        exact ⟨by rw [openS_yes (by omega) (Classical.not_not.1 (by assumption))], hH35⟩
set_option maxHeartbeats 4000000 in
theorem refopen_c {E w : World} {R : List Hp} (hH : Has E w [R]) (t : List UInt8) (hl : t.length ≤ 9223372036854775807) :
    Calls Tryd.prog 21 #[(S t)] w fun e w' => e = .returned (.tuple #[S (openS t).1, .bool (openS t).2]) ∧ Has E w' [R] := by
  refine c_enter (args := [(S t)]) Tryd.func21 rfl Tryd.ntmps21 (by simp) ?_
  refine wp_seq_k fun K1 hK1 => ?_
  refine c_region ?_
  refine s_op (o_assign (v := (S ([] : List UInt8))) rfl ?_)
  refine s_op (o_assign (v := (.bool false)) rfl ?_)
  refine s_nil ?_
  refine t_norm (hK1 _ _ ?_)
  refine wp_seq_k fun K2 hK2 => ?_
  refine wp_seq_k fun K3 hK3 => ?_
  by_cases h4 : (t.length : Int) < 4
  · -- (t.length : Int) < 4
    refine c_flow3 [R] (fun i_ => match i_ with | _ => []) (fun i_ v_ h_ m_ => match i_ with | 0 => v_ = (S t) ∧ h_ = [] | 1 => v_ = (.int .i64 (t.length : Int)) ∧ h_ = [] | 2 => v_ = (.bool (decide ((t.length : Int) < 4))) ∧ h_ = [] | 3 => v_ = (.bool (decide ((t.length : Int) < 4))) ∧ h_ = [] | 4 => v_ = undef ∧ h_ = [] | 5 => v_ = undef ∧ h_ = [] | 6 => v_ = undef ∧ h_ = [] | 7 => v_ = undef ∧ h_ = [] | 8 => v_ = undef ∧ h_ = [] | 9 => v_ = undef ∧ h_ = [] | 10 => v_ = undef ∧ h_ = [] | 11 => v_ = undef ∧ h_ = [] | 12 => v_ = undef ∧ h_ = [] | 13 => v_ = undef ∧ h_ = [] | 14 => v_ = undef ∧ h_ = [] | 15 => v_ = undef ∧ h_ = [] | 16 => v_ = (.bool true) ∧ h_ = [] | _ => True) mixed (by kernel_rfl) (flow_has (cs := []) hH rfl) ?_ ?_
    · intro i_ o_ ho_ r' w' G hs_ ht
      match i_, ho_ with
      | 0, ho_ =>
        obtain rfl := Option.some.inj ho_
        have e0 : r' 0 = (S t) := ht.was 0 (by kernel_rfl)
        have hG := ht.has.drop
        refine GOK.free rfl ?_
        refine o_move (v := (S t)) e0 ?_
        exact ⟨_, ⟨rfl, rfl⟩, hG⟩
      | 1, ho_ =>
        obtain rfl := Option.some.inj ho_
        obtain ⟨e4, eh0⟩ := (ht.done 0 _ rfl rfl).1
        have hG := ht.has.drop
        refine GOK.free rfl ?_
        refine o_slen Tryd.underlying9 e4 ?_
        exact ⟨_, ⟨rfl, rfl⟩, hG⟩
      | 2, ho_ =>
        obtain rfl := Option.some.inj ho_
        obtain ⟨e5, eh1⟩ := (ht.done 1 _ rfl rfl).1
        have hG := ht.has.drop
        refine GOK.free rfl ?_
        refine o_lss (a := (t.length : Int)) (b := 4) e5 rfl ?_
        exact ⟨_, ⟨rfl, rfl⟩, hG⟩
      | 3, ho_ =>
        obtain rfl := Option.some.inj ho_
        obtain ⟨e6, eh2⟩ := (ht.done 2 _ rfl rfl).1
        have hG := ht.has.drop
        refine GOK.free rfl ?_
        refine o_move (v := (.bool (decide ((t.length : Int) < 4)))) e6 ?_
        exact ⟨_, ⟨rfl, rfl⟩, hG⟩
      | 4, ho_ =>
        obtain rfl := Option.some.inj ho_
        obtain ⟨e7, eh3⟩ := (ht.done 3 _ rfl rfl).1
        have hG := ht.has.drop
        refine GOK.off (b' := true) rfl rfl (Eq.trans e7 (congrArg Value.bool (decide_eq_true h4))) rfl ?_
        exact ⟨_, ⟨rfl, rfl⟩, ht.has⟩
      | 5, ho_ =>
        obtain rfl := Option.some.inj ho_
        obtain ⟨e7, eh3⟩ := (ht.done 3 _ rfl rfl).1
        have hG := ht.has.drop
        refine GOK.off (b' := true) rfl rfl (Eq.trans e7 (congrArg Value.bool (decide_eq_true h4))) rfl ?_
        exact ⟨_, ⟨rfl, rfl⟩, ht.has⟩
      | 6, ho_ =>
        obtain rfl := Option.some.inj ho_
        obtain ⟨e7, eh3⟩ := (ht.done 3 _ rfl rfl).1
        have hG := ht.has.drop
        refine GOK.off (b' := true) rfl rfl (Eq.trans e7 (congrArg Value.bool (decide_eq_true h4))) rfl ?_
        exact ⟨_, ⟨rfl, rfl⟩, ht.has⟩
      | 7, ho_ =>
        obtain rfl := Option.some.inj ho_
        obtain ⟨e7, eh3⟩ := (ht.done 3 _ rfl rfl).1
        have hG := ht.has.drop
        refine GOK.off (b' := true) rfl rfl (Eq.trans e7 (congrArg Value.bool (decide_eq_true h4))) rfl ?_
        exact ⟨_, ⟨rfl, rfl⟩, ht.has⟩
      | 8, ho_ =>
        obtain rfl := Option.some.inj ho_
        obtain ⟨e7, eh3⟩ := (ht.done 3 _ rfl rfl).1
        have hG := ht.has.drop
        refine GOK.off (b' := true) rfl rfl (Eq.trans e7 (congrArg Value.bool (decide_eq_true h4))) rfl ?_
        exact ⟨_, ⟨rfl, rfl⟩, ht.has⟩
      | 9, ho_ =>
        obtain rfl := Option.some.inj ho_
        obtain ⟨e7, eh3⟩ := (ht.done 3 _ rfl rfl).1
        have hG := ht.has.drop
        refine GOK.off (b' := true) rfl rfl (Eq.trans e7 (congrArg Value.bool (decide_eq_true h4))) rfl ?_
        exact ⟨_, ⟨rfl, rfl⟩, ht.has⟩
      | 10, ho_ =>
        obtain rfl := Option.some.inj ho_
        obtain ⟨e7, eh3⟩ := (ht.done 3 _ rfl rfl).1
        have hG := ht.has.drop
        refine GOK.off (b' := true) rfl rfl (Eq.trans e7 (congrArg Value.bool (decide_eq_true h4))) rfl ?_
        exact ⟨_, ⟨rfl, rfl⟩, ht.has⟩
      | 11, ho_ =>
        obtain rfl := Option.some.inj ho_
        obtain ⟨e7, eh3⟩ := (ht.done 3 _ rfl rfl).1
        have hG := ht.has.drop
        refine GOK.off (b' := true) rfl rfl (Eq.trans e7 (congrArg Value.bool (decide_eq_true h4))) rfl ?_
        exact ⟨_, ⟨rfl, rfl⟩, ht.has⟩
      | 12, ho_ =>
        obtain rfl := Option.some.inj ho_
        obtain ⟨e7, eh3⟩ := (ht.done 3 _ rfl rfl).1
        have hG := ht.has.drop
        refine GOK.off (b' := true) rfl rfl (Eq.trans e7 (congrArg Value.bool (decide_eq_true h4))) rfl ?_
        exact ⟨_, ⟨rfl, rfl⟩, ht.has⟩
      | 13, ho_ =>
        obtain rfl := Option.some.inj ho_
        obtain ⟨e7, eh3⟩ := (ht.done 3 _ rfl rfl).1
        have hG := ht.has.drop
        refine GOK.off (b' := true) rfl rfl (Eq.trans e7 (congrArg Value.bool (decide_eq_true h4))) rfl ?_
        exact ⟨_, ⟨rfl, rfl⟩, ht.has⟩
      | 14, ho_ =>
        obtain rfl := Option.some.inj ho_
        obtain ⟨e7, eh3⟩ := (ht.done 3 _ rfl rfl).1
        have hG := ht.has.drop
        refine GOK.off (b' := true) rfl rfl (Eq.trans e7 (congrArg Value.bool (decide_eq_true h4))) rfl ?_
        exact ⟨_, ⟨rfl, rfl⟩, ht.has⟩
      | 15, ho_ =>
        obtain rfl := Option.some.inj ho_
        obtain ⟨e7, eh3⟩ := (ht.done 3 _ rfl rfl).1
        have hG := ht.has.drop
        refine GOK.off (b' := true) rfl rfl (Eq.trans e7 (congrArg Value.bool (decide_eq_true h4))) rfl ?_
        exact ⟨_, ⟨rfl, rfl⟩, ht.has⟩
      | 16, ho_ =>
        obtain rfl := Option.some.inj ho_
        obtain ⟨e7, eh3⟩ := (ht.done 3 _ rfl rfl).1
        obtain ⟨e19, eh15⟩ := (ht.done 15 _ rfl rfl).1
        have hG := ht.has.drop
        refine GOK.free rfl ?_
        refine o_pick_t (u := (.bool true)) ((e7 : _ = _).trans (congrArg Value.bool (decide_eq_true h4))) rfl ?_
        exact ⟨_, ⟨rfl, rfl⟩, hG⟩
      | i_ + 17, ho_ => exact absurd ho_ (by simp)
    · intro vs5 hs6 w7 hT8 hH9
      obtain ⟨e0_, eh0_⟩ := hT8 0 _ rfl
      obtain ⟨e1_, eh1_⟩ := hT8 1 _ rfl
      obtain ⟨e2_, eh2_⟩ := hT8 2 _ rfl
      obtain ⟨e3_, eh3_⟩ := hT8 3 _ rfl
      obtain ⟨e4_, eh4_⟩ := hT8 4 _ rfl
      obtain ⟨e5_, eh5_⟩ := hT8 5 _ rfl
      obtain ⟨e6_, eh6_⟩ := hT8 6 _ rfl
      obtain ⟨e7_, eh7_⟩ := hT8 7 _ rfl
      obtain ⟨e8_, eh8_⟩ := hT8 8 _ rfl
      obtain ⟨e9_, eh9_⟩ := hT8 9 _ rfl
      obtain ⟨e10_, eh10_⟩ := hT8 10 _ rfl
      obtain ⟨e11_, eh11_⟩ := hT8 11 _ rfl
      obtain ⟨e12_, eh12_⟩ := hT8 12 _ rfl
      obtain ⟨e13_, eh13_⟩ := hT8 13 _ rfl
      obtain ⟨e14_, eh14_⟩ := hT8 14 _ rfl
      obtain ⟨e15_, eh15_⟩ := hT8 15 _ rfl
      obtain ⟨e16_, eh16_⟩ := hT8 16 _ rfl
      have hH10 : Has E w7 ([R] ++ []) := flow_back (cs := []) hH9 (by show (hs6 0 ++ (hs6 1 ++ (hs6 2 ++ (hs6 3 ++ (hs6 4 ++ (hs6 5 ++ (hs6 6 ++ (hs6 7 ++ (hs6 8 ++ (hs6 9 ++ (hs6 10 ++ (hs6 11 ++ (hs6 12 ++ (hs6 13 ++ (hs6 14 ++ (hs6 15 ++ (hs6 16 ++ []))))))))))))))))) = _; rw [eh0_, eh1_, eh2_, eh3_, eh4_, eh5_, eh6_, eh7_, eh8_, eh9_, eh10_, eh11_, eh12_, eh13_, eh14_, eh15_, eh16_]; rfl)
      generalize hr12 : puts vs5 _ 0 _ = r11
      have e13_0 : r11 0 = (S t) := by rw [← hr12]; exact rfl
      have e13_2 : r11 2 = (S ([] : List UInt8)) := by rw [← hr12]; exact rfl
      have e13_3 : r11 3 = (.bool false) := by rw [← hr12]; exact rfl
      have e13_20 : r11 20 = (.bool true) := by rw [← hr12]; exact e16_
      refine t_norm (hK3 _ _ ?_)
      refine c_true e13_20 rfl ?_
      refine wp_seq_k fun K14 hK14 => ?_
      refine c_region ?_
      refine s_op (o_assign (v := (S ([] : List UInt8))) rfl ?_)
      refine s_op (o_assign (v := (.bool false)) rfl ?_)
      refine s_nil ?_
      refine t_norm (hK14 _ _ ?_)
      refine wp_ret ?_
      refine t_ret (c_ret2 Tryd.results21 (v := (S ([] : List UInt8))) rfl (x := (.bool false)) rfl ?_)
      exact ⟨by rw [openS_no2 (by first | exact .inl (by omega) | exact .inr (by assumption))], hH10⟩
  · -- not: (t.length : Int) < 4
    refine c_flow3 [R] (fun i_ => match i_ with | _ => []) (fun i_ v_ h_ m_ => match i_ with | 0 => v_ = (S t) ∧ h_ = [] | 1 => v_ = (.int .i64 (t.length : Int)) ∧ h_ = [] | 2 => v_ = (.bool (decide ((t.length : Int) < 4))) ∧ h_ = [] | 3 => v_ = (.bool (decide ((t.length : Int) < 4))) ∧ h_ = [] | 4 => v_ = (S t) ∧ h_ = [] | 5 => v_ = (S t) ∧ h_ = [] | 6 => v_ = (.int .i64 (t.length : Int)) ∧ h_ = [] | 7 => v_ = (.int .i64 ((t.length : Int) - 4)) ∧ h_ = [] | 8 => v_ = (S (t.take ((t.length : Int) - 4).toNat)) ∧ h_ = [] | 9 => v_ = (S (laidS (crcS (t.take ((t.length : Int) - 4).toNat)))) ∧ h_ = [] | 10 => v_ = (S t) ∧ h_ = [] | 11 => v_ = (S t) ∧ h_ = [] | 12 => v_ = (.int .i64 (t.length : Int)) ∧ h_ = [] | 13 => v_ = (.int .i64 ((t.length : Int) - 4)) ∧ h_ = [] | 14 => v_ = (S (t.drop ((t.length : Int) - 4).toNat)) ∧ h_ = [] | 15 => v_ = (.bool (decide ((laidS (crcS (t.take ((t.length : Int) - 4).toNat))) ≠ t.drop ((t.length : Int) - 4).toNat))) ∧ h_ = [] | 16 => v_ = (.bool (decide ((laidS (crcS (t.take ((t.length : Int) - 4).toNat))) ≠ t.drop ((t.length : Int) - 4).toNat))) ∧ h_ = [] | _ => True) mixed (by kernel_rfl) (flow_has (cs := []) hH rfl) ?_ ?_
    · intro i_ o_ ho_ r' w' G hs_ ht
      match i_, ho_ with
      | 0, ho_ =>
        obtain rfl := Option.some.inj ho_
        have e0 : r' 0 = (S t) := ht.was 0 (by kernel_rfl)
        have hG := ht.has.drop
        refine GOK.free rfl ?_
        refine o_move (v := (S t)) e0 ?_
        exact ⟨_, ⟨rfl, rfl⟩, hG⟩
      | 1, ho_ =>
        obtain rfl := Option.some.inj ho_
        obtain ⟨e4, eh0⟩ := (ht.done 0 _ rfl rfl).1
        have hG := ht.has.drop
        refine GOK.free rfl ?_
        refine o_slen Tryd.underlying9 e4 ?_
        exact ⟨_, ⟨rfl, rfl⟩, hG⟩
      | 2, ho_ =>
        obtain rfl := Option.some.inj ho_
        obtain ⟨e5, eh1⟩ := (ht.done 1 _ rfl rfl).1
        have hG := ht.has.drop
        refine GOK.free rfl ?_
        refine o_lss (a := (t.length : Int)) (b := 4) e5 rfl ?_
        exact ⟨_, ⟨rfl, rfl⟩, hG⟩
      | 3, ho_ =>
        obtain rfl := Option.some.inj ho_
        obtain ⟨e6, eh2⟩ := (ht.done 2 _ rfl rfl).1
        have hG := ht.has.drop
        refine GOK.free rfl ?_
        refine o_move (v := (.bool (decide ((t.length : Int) < 4)))) e6 ?_
        exact ⟨_, ⟨rfl, rfl⟩, hG⟩
      | 4, ho_ =>
        obtain rfl := Option.some.inj ho_
        obtain ⟨e7, eh3⟩ := (ht.done 3 _ rfl rfl).1
        have e0 : r' 0 = (S t) := ht.was 0 (by kernel_rfl)
        have hG := ht.has.drop
        refine GOK.on rfl rfl (Eq.trans e7 (congrArg Value.bool (decide_eq_false h4))) ?_
        refine o_move (v := (S t)) e0 ?_
        exact ⟨_, ⟨rfl, rfl⟩, hG⟩
      | 5, ho_ =>
        obtain rfl := Option.some.inj ho_
        obtain ⟨e7, eh3⟩ := (ht.done 3 _ rfl rfl).1
        have e0 : r' 0 = (S t) := ht.was 0 (by kernel_rfl)
        have hG := ht.has.drop
        refine GOK.on rfl rfl (Eq.trans e7 (congrArg Value.bool (decide_eq_false h4))) ?_
        refine o_move (v := (S t)) e0 ?_
        exact ⟨_, ⟨rfl, rfl⟩, hG⟩
      | 6, ho_ =>
        obtain rfl := Option.some.inj ho_
        obtain ⟨e7, eh3⟩ := (ht.done 3 _ rfl rfl).1
        obtain ⟨e9, eh5⟩ := (ht.done 5 _ rfl rfl).1
        have hG := ht.has.drop
        refine GOK.on rfl rfl (Eq.trans e7 (congrArg Value.bool (decide_eq_false h4))) ?_
        refine o_slen Tryd.underlying9 e9 ?_
        exact ⟨_, ⟨rfl, rfl⟩, hG⟩
      | 7, ho_ =>
        obtain rfl := Option.some.inj ho_
        obtain ⟨e7, eh3⟩ := (ht.done 3 _ rfl rfl).1
        obtain ⟨e10, eh6⟩ := (ht.done 6 _ rfl rfl).1
        have hG := ht.has.drop
        refine GOK.on rfl rfl (Eq.trans e7 (congrArg Value.bool (decide_eq_false h4))) ?_
        refine o_sub (a := (t.length : Int)) (b := 4) e10 rfl (w64 (by omega) (by omega)) ?_
        exact ⟨_, ⟨rfl, rfl⟩, hG⟩
      | 8, ho_ =>
        obtain rfl := Option.some.inj ho_
        obtain ⟨e7, eh3⟩ := (ht.done 3 _ rfl rfl).1
        obtain ⟨e8, eh4⟩ := (ht.done 4 _ rfl rfl).1
        obtain ⟨e11, eh7⟩ := (ht.done 7 _ rfl rfl).1
        have hG := ht.has.drop
        refine GOK.on rfl rfl (Eq.trans e7 (congrArg Value.bool (decide_eq_false h4))) ?_
        refine o_ssl_h Tryd.underlying9 e8 e11 (by omega) (by omega) ?_
        exact ⟨_, ⟨rfl, rfl⟩, hG⟩
      | 9, ho_ =>
        obtain rfl := Option.some.inj ho_
        obtain ⟨e7, eh3⟩ := (ht.done 3 _ rfl rfl).1
        obtain ⟨e12, eh8⟩ := (ht.done 8 _ rfl rfl).1
        have hG := ht.has.drop
        refine GOK.on rfl rfl (Eq.trans e7 (congrArg Value.bool (decide_eq_false h4))) ?_
        refine o_callf (vs := #[(S (t.take ((t.length : Int) - 4).toNat))]) ca17 rfl (args1 e12) (reflaid_c hG.all (t.take ((t.length : Int) - 4).toNat) (by rw [List.length_take]; omega)) ?_
        rintro _ w17 ⟨rfl, hX15⟩
        refine ⟨_, rfl, ?_⟩
        have hH16 := hX15.of_all
        exact ⟨_, ⟨rfl, rfl⟩, hH16⟩
      | 10, ho_ =>
        obtain rfl := Option.some.inj ho_
        obtain ⟨e7, eh3⟩ := (ht.done 3 _ rfl rfl).1
        have e0 : r' 0 = (S t) := ht.was 0 (by kernel_rfl)
        have hG := ht.has.drop
        refine GOK.on rfl rfl (Eq.trans e7 (congrArg Value.bool (decide_eq_false h4))) ?_
        refine o_move (v := (S t)) e0 ?_
        exact ⟨_, ⟨rfl, rfl⟩, hG⟩
      | 11, ho_ =>
        obtain rfl := Option.some.inj ho_
        obtain ⟨e7, eh3⟩ := (ht.done 3 _ rfl rfl).1
        have e0 : r' 0 = (S t) := ht.was 0 (by kernel_rfl)
        have hG := ht.has.drop
        refine GOK.on rfl rfl (Eq.trans e7 (congrArg Value.bool (decide_eq_false h4))) ?_
        refine o_move (v := (S t)) e0 ?_
        exact ⟨_, ⟨rfl, rfl⟩, hG⟩
      | 12, ho_ =>
        obtain rfl := Option.some.inj ho_
        obtain ⟨e7, eh3⟩ := (ht.done 3 _ rfl rfl).1
        obtain ⟨e15, eh11⟩ := (ht.done 11 _ rfl rfl).1
        have hG := ht.has.drop
        refine GOK.on rfl rfl (Eq.trans e7 (congrArg Value.bool (decide_eq_false h4))) ?_
        refine o_slen Tryd.underlying9 e15 ?_
        exact ⟨_, ⟨rfl, rfl⟩, hG⟩
      | 13, ho_ =>
        obtain rfl := Option.some.inj ho_
        obtain ⟨e7, eh3⟩ := (ht.done 3 _ rfl rfl).1
        obtain ⟨e16, eh12⟩ := (ht.done 12 _ rfl rfl).1
        have hG := ht.has.drop
        refine GOK.on rfl rfl (Eq.trans e7 (congrArg Value.bool (decide_eq_false h4))) ?_
        refine o_sub (a := (t.length : Int)) (b := 4) e16 rfl (w64 (by omega) (by omega)) ?_
        exact ⟨_, ⟨rfl, rfl⟩, hG⟩
      | 14, ho_ =>
        obtain rfl := Option.some.inj ho_
        obtain ⟨e7, eh3⟩ := (ht.done 3 _ rfl rfl).1
        obtain ⟨e14, eh10⟩ := (ht.done 10 _ rfl rfl).1
        obtain ⟨e17, eh13⟩ := (ht.done 13 _ rfl rfl).1
        have hG := ht.has.drop
        refine GOK.on rfl rfl (Eq.trans e7 (congrArg Value.bool (decide_eq_false h4))) ?_
        refine o_ssl_l Tryd.underlying9 e14 e17 (by omega) (by omega) ?_
        exact ⟨_, ⟨rfl, rfl⟩, hG⟩
      | 15, ho_ =>
        obtain rfl := Option.some.inj ho_
        obtain ⟨e7, eh3⟩ := (ht.done 3 _ rfl rfl).1
        obtain ⟨e13, eh9⟩ := (ht.done 9 _ rfl rfl).1
        obtain ⟨e18, eh14⟩ := (ht.done 14 _ rfl rfl).1
        have hG := ht.has.drop
        refine GOK.on rfl rfl (Eq.trans e7 (congrArg Value.bool (decide_eq_false h4))) ?_
        refine o_sneq (a := (laidS (crcS (t.take ((t.length : Int) - 4).toNat)))) (b := t.drop ((t.length : Int) - 4).toNat) e13 e18 ?_
        exact ⟨_, ⟨rfl, rfl⟩, hG⟩
      | 16, ho_ =>
        obtain rfl := Option.some.inj ho_
        obtain ⟨e7, eh3⟩ := (ht.done 3 _ rfl rfl).1
        obtain ⟨e19, eh15⟩ := (ht.done 15 _ rfl rfl).1
        have hG := ht.has.drop
        refine GOK.free rfl ?_
        refine o_pick_f (u := (.bool (decide ((laidS (crcS (t.take ((t.length : Int) - 4).toNat))) ≠ t.drop ((t.length : Int) - 4).toNat)))) ((e7 : _ = _).trans (congrArg Value.bool (decide_eq_false h4))) e19 ?_
        exact ⟨_, ⟨rfl, rfl⟩, hG⟩
      | i_ + 17, ho_ => exact absurd ho_ (by simp)
    · intro vs18 hs19 w20 hT21 hH22
      obtain ⟨e0_, eh0_⟩ := hT21 0 _ rfl
      obtain ⟨e1_, eh1_⟩ := hT21 1 _ rfl
      obtain ⟨e2_, eh2_⟩ := hT21 2 _ rfl
      obtain ⟨e3_, eh3_⟩ := hT21 3 _ rfl
      obtain ⟨e4_, eh4_⟩ := hT21 4 _ rfl
      obtain ⟨e5_, eh5_⟩ := hT21 5 _ rfl
      obtain ⟨e6_, eh6_⟩ := hT21 6 _ rfl
      obtain ⟨e7_, eh7_⟩ := hT21 7 _ rfl
      obtain ⟨e8_, eh8_⟩ := hT21 8 _ rfl
      obtain ⟨e9_, eh9_⟩ := hT21 9 _ rfl
      obtain ⟨e10_, eh10_⟩ := hT21 10 _ rfl
      obtain ⟨e11_, eh11_⟩ := hT21 11 _ rfl
      obtain ⟨e12_, eh12_⟩ := hT21 12 _ rfl
      obtain ⟨e13_, eh13_⟩ := hT21 13 _ rfl
      obtain ⟨e14_, eh14_⟩ := hT21 14 _ rfl
      obtain ⟨e15_, eh15_⟩ := hT21 15 _ rfl
      obtain ⟨e16_, eh16_⟩ := hT21 16 _ rfl
      have hH23 : Has E w20 ([R] ++ []) := flow_back (cs := []) hH22 (by show (hs19 0 ++ (hs19 1 ++ (hs19 2 ++ (hs19 3 ++ (hs19 4 ++ (hs19 5 ++ (hs19 6 ++ (hs19 7 ++ (hs19 8 ++ (hs19 9 ++ (hs19 10 ++ (hs19 11 ++ (hs19 12 ++ (hs19 13 ++ (hs19 14 ++ (hs19 15 ++ (hs19 16 ++ []))))))))))))))))) = _; rw [eh0_, eh1_, eh2_, eh3_, eh4_, eh5_, eh6_, eh7_, eh8_, eh9_, eh10_, eh11_, eh12_, eh13_, eh14_, eh15_, eh16_]; rfl)
      generalize hr25 : puts vs18 _ 0 _ = r24
      have e26_0 : r24 0 = (S t) := by rw [← hr25]; exact rfl
      have e26_2 : r24 2 = (S ([] : List UInt8)) := by rw [← hr25]; exact rfl
      have e26_3 : r24 3 = (.bool false) := by rw [← hr25]; exact rfl
      have e26_20 : r24 20 = (.bool (decide ((laidS (crcS (t.take ((t.length : Int) - 4).toNat))) ≠ t.drop ((t.length : Int) - 4).toNat))) := by rw [← hr25]; exact e16_
      refine t_norm (hK3 _ _ ?_)
      refine c_cond e26_20 (fun h27 => ?_) (fun h27 => ?_)
      · -- (laidS (crcS (t.take ((t.length : Int) - 4).toNat))) ≠ t.drop ((t.length : Int) - 4).toNat
        refine wp_seq_k fun K28 hK28 => ?_
        refine c_region ?_
        refine s_op (o_assign (v := (S ([] : List UInt8))) rfl ?_)
        refine s_op (o_assign (v := (.bool false)) rfl ?_)
        refine s_nil ?_
        refine t_norm (hK28 _ _ ?_)
        refine wp_ret ?_
        refine t_ret (c_ret2 Tryd.results21 (v := (S ([] : List UInt8))) rfl (x := (.bool false)) rfl ?_)
        exact ⟨by rw [openS_no2 (by first | exact .inl (by omega) | exact .inr (by assumption))], hH23⟩
      · -- not: (laidS (crcS (t.take ((t.length : Int) - 4).toNat))) ≠ t.drop ((t.length : Int) - 4).toNat
        refine wp_skip ?_
        refine t_norm (hK2 _ _ ?_)
        refine wp_seq_k fun K29 hK29 => ?_
        refine c_region ?_
        refine s_op (o_move (v := (S t)) e26_0 ?_)
        refine s_op (o_move (v := (S t)) e26_0 ?_)
        refine s_op (o_slen Tryd.underlying9 rfl ?_)
        refine s_op (o_sub (a := (t.length : Int)) (b := 4) rfl rfl (w64 (by omega) (by omega)) ?_)
        refine s_op (o_ssl_h Tryd.underlying9 rfl rfl (by omega) (by omega) ?_)
        refine s_op (o_assign (v := (S (t.take ((t.length : Int) - 4).toNat))) rfl ?_)
        refine s_op (o_assign (v := (.bool true)) rfl ?_)
        refine s_nil ?_
        refine t_norm (hK29 _ _ ?_)
        refine wp_ret ?_
        refine c_ret2 Tryd.results21 (v := (S (t.take ((t.length : Int) - 4).toNat))) rfl (x := (.bool true)) rfl ?_
        exact ⟨by rw [openS_yes2 (by omega) (Classical.not_not.1 (by assumption))], hH23⟩
set_option maxHeartbeats 4000000 in
theorem good_c {E w : World} {R : List Hp} (hH : Has E w [R]) (hg : CellsAt R 0 0 nibV) {v : Value} {l : List (List UInt8)} (hv : Sl R 1 v l.length (l.map sV)) (hlb : ∀ x ∈ l, x.length ≤ 9223372036854775807) :
    Calls Tryd.prog 22 #[v] w fun e w' => e = .returned (.bool (l.all (fun x => (openS x).2))) ∧ Has E w' [R] := by
  have hn := hv.le
  refine c_enter (args := [v]) Tryd.func22 rfl Tryd.ntmps22 (by simp) ?_
  refine wp_seq_k fun K1 hK1 => ?_
  refine c_region ?_
  refine s_op (o_assign (v := (.bool false)) rfl ?_)
  refine s_nil ?_
  refine t_norm (hK1 _ _ ?_)
  refine wp_seq_k fun K2 hK2 => ?_
  refine wp_seq_k fun K3 hK3 => ?_
  refine c_region ?_
  refine s_op (o_move (v := v) rfl ?_)
  refine s_op (o_lenS Tryd.underlying22 rfl hv ?_)
  refine s_op (o_move (v := (.int .i64 0)) rfl ?_)
  refine s_nil ?_
  refine t_norm (hK3 _ _ ?_)
  refine wp_block ?_
  let I5 : Nat → (Nat → Value) → World → Prop := fun n__ r__ w__ => ∃ (k : Nat), n__ = l.length - k ∧ Has E w__ [R] ∧ (k ≤ l.length) ∧ (∀ x ∈ l.take k, (openS x).2 = true) ∧ r__ 0 = v ∧ r__ 7 = v ∧ r__ 8 = (.int .i64 ((l.length : Nat) : Int)) ∧ r__ 9 = (.int .i64 (k : Int))
  refine c_loop I5 _ ⟨0, rfl, hH, Nat.zero_le _, (by simp), rfl, rfl, rfl, rfl⟩ ?_
  rintro n_ r8 w6 ⟨k, rfl, hH7, hk, ha, e4_0, e4_7, e4_8, e4_9⟩
  refine wp_seq_k fun K9 hK9 => ?_
  refine c_region ?_
  refine s_op (o_lss (a := (k : Int)) (b := ((l.length : Nat) : Int)) e4_9 e4_8 ?_)
  refine s_nil ?_
  refine t_norm (hK9 _ _ ?_)
  refine wp_seq_k fun K10 hK10 => ?_
  refine c_cond rfl (fun h11 => ?_) (fun h11 => ?_)
  · -- (k : Int) < ((l.length : Nat) : Int)
    refine wp_skip ?_
    refine t_norm (hK10 _ _ ?_)
    refine wp_seq_k fun K12 hK12 => ?_
    refine wp_block ?_
    refine wp_seq_k fun K13 hK13 => ?_
    refine c_region ?_
    obtain ⟨x17, hx18⟩ : ∃ x_, l[((k : Int)).toNat]? = some x_ := get_some (by omega)
    refine s_op (o_index1 Tryd.underlying22 ti9 e4_7 hv e4_9 (by omega) hx18 fun b14 o15 hc16 => ?_)
    refine s_op (o_load1 (v := (S x17)) Tryd.underlying9 rfl rfl hH7 (seg_sub 0 rfl) hc16 ?_)
    refine s_op (o_assign (v := (S x17)) rfl ?_)
    refine s_nil ?_
    refine t_norm (hK13 _ _ ?_)
    refine wp_seq_k fun K19 hK19 => ?_
    refine c_region ?_
    refine s_op (o_move (v := (S x17)) rfl ?_)
    refine s_op (o_callf (vs := #[(S x17)]) ca20 rfl (args1 rfl) (open_c hH7.all (hg.mono (seg_sub 0 rfl)) x17 (hlb _ (List.mem_of_getElem? hx18))) ?_)
    rintro _ w22 ⟨rfl, hX20⟩
    refine ⟨_, rfl, ?_⟩
    have hH21 := hX20.of_all
    refine s_op (o_move (v := (.tuple #[(S ((openS x17).1)), (.bool ((openS x17).2))])) rfl ?_)
    refine s_op (o_extract (v := (S ((openS x17).1))) rfl rfl ?_)
    refine s_op (o_extract (v := (.bool ((openS x17).2))) rfl rfl ?_)
    refine s_op (o_assign (v := (S ((openS x17).1))) rfl ?_)
    refine s_op (o_assign (v := (.bool ((openS x17).2))) rfl ?_)
    refine s_nil ?_
    refine t_norm (hK19 _ _ ?_)
    refine wp_seq_k fun K23 hK23 => ?_
    refine c_region ?_
    refine s_op (o_move (v := (.bool ((openS x17).2))) rfl ?_)
    refine s_op (o_not rfl ?_)
    refine s_nil ?_
    refine t_norm (hK23 _ _ ?_)
    refine c_condb rfl (fun h24 => ?_) (fun h24 => ?_)
    · -- !((openS x17).2)
      refine wp_seq_k fun K25 hK25 => ?_
      refine c_region ?_
      refine s_op (o_assign (v := (.bool false)) rfl ?_)
      refine s_nil ?_
      refine t_norm (hK25 _ _ ?_)
      refine wp_ret ?_
      refine b_ret (t_ret (t_ret (b_ret (t_ret (c_ret1 Tryd.results22 (v := (.bool false)) rfl ?_)))))
      exact ⟨by rw [all_no (List.mem_of_getElem? hx18) (by simpa using ‹(!_) = true›)], hH21⟩
    · -- not: !((openS x17).2)
      refine wp_skip ?_
      refine b_norm ?_
      refine t_norm (hK12 _ _ ?_)
      refine c_region ?_
      refine s_op (o_add (a := (k : Int)) (b := 1) e4_9 rfl (w64 (by omega) (by omega)) ?_)
      refine s_op (o_move (v := (.int .i64 ((k : Int) + 1))) rfl ?_)
      refine s_nil ?_
      refine t_norm ⟨l.length - (k + 1), _, rfl, ?_, ?_⟩
      · omega
      · exact ⟨(k + 1), rfl, hH21, (by omega), (by rw [take_succ_of (show l[k]? = some _ from hx18)]; exact fun y hy => (List.mem_append.1 hy).elim (ha y) (fun g => by rw [List.mem_singleton.1 g]; simpa using ‹(!_) = false›)), e4_0, e4_7, e4_8, rfl⟩
  · -- not: (k : Int) < ((l.length : Nat) : Int)
    refine wp_exit ?_
    refine t_exit (t_exit (x_in (?_)))
    refine t_norm (hK2 _ _ ?_)
    refine wp_seq_k fun K26 hK26 => ?_
    refine c_region ?_
    refine s_op (o_assign (v := (.bool true)) rfl ?_)
    refine s_nil ?_
    refine t_norm (hK26 _ _ ?_)
    refine wp_ret ?_
    refine c_ret1 Tryd.results22 (v := (.bool true)) rfl ?_
    have e : k = l.length := by omega
    rw [e, List.take_length] at ha
    exact ⟨by rw [List.all_eq_true.2 ha], hH7⟩
set_option maxHeartbeats 4000000 in
theorem awake2_c {E w : World} {R : List Hp} (hH : Has E w [R]) (hg : CellsAt R 0 0 nibV) :
    Calls Tryd.prog 13 #[] w fun e w' => e = .returned (.bool true) ∧ Has E w' [R] := by
  refine c_enter (args := []) Tryd.func13 rfl Tryd.ntmps13 (by simp) ?_
  refine wp_seq_k fun K1 hK1 => ?_
  refine c_region ?_
  refine s_op (o_assign (v := (.bool false)) rfl ?_)
  refine s_nil ?_
  refine t_norm (hK1 _ _ ?_)
  refine wp_seq_k fun K2 hK2 => ?_
  refine c_region ?_
  refine s_op (o_buildSlice (ps := #[(0, (S [97])), (1, (S [98]))]) (cells := #[(S [97]), (S [98])]) Tryd.underlying22 ti9 (by decide) (parts2 rfl rfl) (by kernel_rfl) hH fun b3 w4 hH5 => ?_)
  refine s_op (o_callf (vs := #[(.slice (some ⟨b3, 0, none⟩) 2 2)]) ca18 rfl (args1 rfl) (seal_c hH5.all (hg.mono (seg_sub 1 rfl)) ((sl_lit (f := sV) (l := [[97], [98]]) rfl rfl (by simp)).mono (seg_sub 0 rfl)) (by decide) (by decide)) ?_)
  rintro _ w8 ⟨rfl, hX6⟩
  refine ⟨_, rfl, ?_⟩
  have hH7 := hX6.of_all
  refine s_op (o_callf (vs := #[(S (sealS [[97], [98]].flatten))]) ca20 rfl (args1 rfl) (open_c hH7.all (hg.mono (seg_sub 1 rfl)) (sealS [[97], [98]].flatten) (by decide +kernel)) ?_)
  rintro _ w11 ⟨rfl, hX9⟩
  refine ⟨_, rfl, ?_⟩
  have hH10 := hX9.of_all
  refine s_op (o_move (v := (.tuple #[(S ((openS (sealS [[97], [98]].flatten)).1)), (.bool ((openS (sealS [[97], [98]].flatten)).2))])) rfl ?_)
  refine s_op (o_extract (v := (S ((openS (sealS [[97], [98]].flatten)).1))) rfl rfl ?_)
  refine s_op (o_extract (v := (.bool ((openS (sealS [[97], [98]].flatten)).2))) rfl rfl ?_)
  refine s_op (o_assign (v := (S ((openS (sealS [[97], [98]].flatten)).1))) rfl ?_)
  refine s_op (o_assign (v := (.bool ((openS (sealS [[97], [98]].flatten)).2))) rfl ?_)
  refine s_nil ?_
  refine t_norm (hK2 _ _ ?_)
  refine wp_seq_k fun K12 hK12 => ?_
  refine c_region ?_
  refine s_op (o_buildSlice (ps := #[(0, (S [49, 50, 51, 52])), (1, (S [53, 54, 55, 56, 57]))]) (cells := #[(S [49, 50, 51, 52]), (S [53, 54, 55, 56, 57])]) Tryd.underlying22 ti9 (by decide) (parts2 rfl rfl) (by kernel_rfl) hH10 fun b13 w14 hH15 => ?_)
  refine s_op (o_callf (vs := #[(.slice (some ⟨b13, 0, none⟩) 2 2)]) ca14 rfl (args1 rfl) (of2_c hH15.all (hg.mono (seg_sub 2 rfl)) ((sl_lit (f := sV) (l := [[49, 50, 51, 52], [53, 54, 55, 56, 57]]) rfl rfl (by simp)).mono (seg_sub 0 rfl)) (by decide)) ?_)
  rintro _ w18 ⟨rfl, hX16⟩
  refine ⟨_, rfl, ?_⟩
  have hH17 := hX16.of_all
  refine s_op (o_eql (a := ((crcS [[49, 50, 51, 52], [53, 54, 55, 56, 57]].flatten).toNat : Int)) (b := 3421780262) rfl rfl ?_)
  refine s_op (o_move (v := (.bool (decide (((crcS [[49, 50, 51, 52], [53, 54, 55, 56, 57]].flatten).toNat : Int) = 3421780262)))) rfl ?_)
  by_cases h19 : ((crcS [[49, 50, 51, 52], [53, 54, 55, 56, 57]].flatten).toNat : Int) = 3421780262
  · -- ((crcS [[49, 50, 51, 52], [53, 54, 55, 56, 57]].flatten).toNat : Int) = 3421780262
    refine s_on 12 rfl (congrArg Value.bool (decide_eq_true h19)) (o_move (v := (S ((openS (sealS [[97], [98]].flatten)).1))) rfl ?_)
    refine s_on 12 rfl (congrArg Value.bool (decide_eq_true h19)) (o_seql (a := (openS (sealS [[97], [98]].flatten)).1) (b := [97, 98]) rfl rfl ?_)
    refine s_op (o_pick_t (u := (.bool (decide ((openS (sealS [[97], [98]].flatten)).1 = [97, 98])))) ((rfl : _ = _).trans (congrArg Value.bool (decide_eq_true h19))) rfl ?_)
    refine s_op (o_move (v := (.bool (decide ((openS (sealS [[97], [98]].flatten)).1 = [97, 98])))) rfl ?_)
    by_cases h20 : (openS (sealS [[97], [98]].flatten)).1 = [97, 98]
    · -- (openS (sealS [[97], [98]].flatten)).1 = [97, 98]
      refine s_on 16 rfl (congrArg Value.bool (decide_eq_true h20)) (o_move (v := (.bool ((openS (sealS [[97], [98]].flatten)).2))) rfl ?_)
      refine s_op (o_pick_t (u := (.bool ((openS (sealS [[97], [98]].flatten)).2))) ((rfl : _ = _).trans (congrArg Value.bool (decide_eq_true h20))) rfl ?_)
      refine s_op (o_assign (v := (.bool ((openS (sealS [[97], [98]].flatten)).2))) rfl ?_)
      refine s_nil ?_
      refine t_norm (hK12 _ _ ?_)
      refine wp_ret ?_
      refine c_ret1 Tryd.results13 (v := (.bool ((openS (sealS [[97], [98]].flatten)).2))) rfl ?_
      have hH21 : Has E w18 [R] := (hH17.front 2 rfl).first 1 rfl
      exact ⟨by rw [show (openS (sealS [[97], [98]].flatten)).2 = true from by decide +kernel], hH21⟩
    · -- not: (openS (sealS [[97], [98]].flatten)).1 = [97, 98]
      exact absurd (by decide +kernel) h20
  · -- not: ((crcS [[49, 50, 51, 52], [53, 54, 55, 56, 57]].flatten).toNat : Int) = 3421780262
    exact absurd (by decide +kernel) h19
end Go.Q
