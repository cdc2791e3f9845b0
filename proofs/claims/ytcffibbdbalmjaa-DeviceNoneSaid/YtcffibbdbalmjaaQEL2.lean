/-
  Parts of a walk: what functions of the program compute, each told by a theorem.
-/
import Derived.Test.YtcffibbdbalmjaaQE8
set_option linter.unusedVariables false
set_option linter.unusedSimpArgs false
namespace Go.Q
open Go.Proofs
set_option linter.unusedVariables false
set_option maxRecDepth 100000
attribute [local irreducible] wpList OK Code.wp
set_option maxHeartbeats 4000000 in
theorem DeviceNone_c {E w : World} {R : List Hp} (hH : Has E w [R]) {kd n : Int} {ot : Bool} {dv : Value} {da : List Bs} {kv : Value} {ke : List Int} (hm : DaOk R (DAct.mk kd n ot dv da kv ke)) :
    Calls Try.prog 13 #[(.agg #[(.int .i64 kd), (.int .i64 n), (.bool ot), dv, kv])] w fun e w' => e = .returned (.bool true) ∧ Has E w' [R] := by
  refine c_enter (args := [(.agg #[(.int .i64 kd), (.int .i64 n), (.bool ot), dv, kv])]) Try.func13 rfl Try.ntmps13 (by simp) ?_
  refine wp_seq_k fun K1 hK1 => ?_
  refine c_region ?_
  refine s_op (o_box (cs := #[(.int .i64 kd), (.int .i64 n), (.bool ot), dv, kv]) rfl rfl hH fun b2 w3 hH4 => ?_)
  refine s_op (o_assign (v := (.bool false)) rfl ?_)
  refine s_nil ?_
  refine t_norm (hK1 _ _ ?_)
  refine wp_seq_k fun K5 hK5 => ?_
  refine wp_seq_k fun K6 hK6 => ?_
  refine c_region ?_
  refine s_op (o_loadN (cs := [(.int .i64 kd), (.int .i64 n), (.bool ot), dv, kv]) Try.underlying104 rfl ti104 rfl hH4 (seg_sub 0 rfl) (CellsAt.one rfl) ?_)
  refine s_op (o_buildSlice (ps := #[(0, (.agg #[(.int .i64 kd), (.int .i64 n), (.bool ot), dv, kv]))]) (cells := #[(.int .i64 kd), (.int .i64 n), (.bool ot), dv, kv]) Try.underlying97 ti104 (by decide) (parts1 rfl) (by kernel_rfl) hH4 fun b7 w8 hH9 => ?_)
  refine s_op (o_callf (vs := #[(.slice (some ⟨b7, 0, none⟩) 1 1)]) ca50 rfl (args1 rfl) (lgreat_c hH9.all (l := [(DAct.mk kd n ot dv da kv ke)]) ((sl_litF (f := daC) (l := [(DAct.mk kd n ot dv da kv ke)]) daC_len rfl rfl (by simp)).mono (seg_sub 0 rfl)) (fun a ha => by rw [List.mem_singleton.1 ha]; exact hm.mono (seg_sub 2 rfl))) ?_)
  rintro _ w14 ⟨gb10, rfl, hg11, hX12⟩
  refine ⟨_, rfl, ?_⟩
  have hH13 : Has E w14 [[Hp.one b7 (.cells #[(.int .i64 kd), (.int .i64 n), (.bool ot), dv, kv] 104 (0, 0))], [Hp.one b2 (.cells #[(.int .i64 kd), (.int .i64 n), (.bool ot), dv, kv] 104 (0, 0))], R] := hX12.of_all
  refine s_nil ?_
  refine t_norm (hK6 _ _ ?_)
  refine c_condb rfl (fun h15 => ?_) (fun h15 => ?_)
  · -- gb10
    refine wp_seq_k fun K16 hK16 => ?_
    refine c_region ?_
    refine s_op (o_callf (vs := #[]) ca27 rfl (args0) (awake5_c hH13.all) ?_)
    rintro _ w19 ⟨rfl, hX17⟩
    refine ⟨_, rfl, ?_⟩
    have hH18 := hX17.of_all
    refine s_op (o_assign (v := (.bool true)) rfl ?_)
    refine s_nil ?_
    refine t_norm (hK16 _ _ ?_)
    refine wp_ret ?_
    refine t_ret (c_ret1 Try.results13  (v := (.bool true)) rfl ?_)
    have hH20 : Has E w19 [R] := (hH18.front 2 rfl).first 1 rfl
    exact ⟨rfl, hH20⟩
  · -- not: gb10
    obtain ⟨hfa_, hfb_, hfc_⟩ : da.length ≤ 6 ∧ da.flatten.length ≤ 200 ∧ ke.length ≤ 40 := (hg11 h15).2 _ (List.mem_singleton.2 rfl)
    refine wp_skip ?_
    refine t_norm (hK5 _ _ ?_)
    refine wp_seq_k fun K21 hK21 => ?_
    refine c_region ?_
    refine s_op (o_assign (v := (.pointer none)) rfl ?_)
    refine s_nil ?_
    refine t_norm (hK21 _ _ ?_)
    refine wp_seq_k fun K22 hK22 => ?_
    refine c_region ?_
    refine s_op (o_assign (v := (.pointer none)) rfl ?_)
    refine s_nil ?_
    refine t_norm (hK22 _ _ ?_)
    refine wp_seq_k fun K23 hK23 => ?_
    refine c_region ?_
    refine s_op (o_move (v := (.pointer none)) rfl ?_)
    refine s_op (o_fieldAddr (k := 1) (fun _ => by kernel_rfl) rfl ?_)
    refine s_op (o_load1 (v := (.int .i64 n)) Try.underlying3 rfl rfl hH13 (seg_sub 1 rfl) (CellsAt.one rfl) ?_)
    refine s_op (o_callf (vs := #[(.pointer none), (.int .i64 n)]) ca59 rfl (args2 rfl rfl) (pn_arm hH13.all n) ?_)
    rintro _ w26 ⟨rfl, hX24⟩
    refine ⟨_, rfl, ?_⟩
    have hH25 := hX24.of_all
    refine s_nil ?_
    refine t_norm (hK23 _ _ ?_)
    refine wp_seq_k fun K27 hK27 => ?_
    refine c_region ?_
    refine s_op (o_move (v := (.pointer none)) rfl ?_)
    refine s_op (o_fieldAddr (k := 1) (fun _ => by kernel_rfl) rfl ?_)
    refine s_op (o_load1 (v := (.int .i64 n)) Try.underlying3 rfl rfl hH25 (seg_sub 1 rfl) (CellsAt.one rfl) ?_)
    refine s_op (o_callf (vs := #[(.pointer none), (.int .i64 n)]) ca60 rfl (args2 rfl rfl) (dn_arm hH25.all n) ?_)
    rintro _ w30 ⟨rfl, hX28⟩
    refine ⟨_, rfl, ?_⟩
    have hH29 := hX28.of_all
    refine s_nil ?_
    refine t_norm (hK27 _ _ ?_)
    refine wp_seq_k fun K31 hK31 => ?_
    refine c_region ?_
    refine s_op (o_move (v := (.pointer none)) rfl ?_)
    refine s_op (o_fieldAddr (k := 4) (fun _ => by kernel_rfl) rfl ?_)
    refine s_op (o_load1 (v := kv) Try.underlying54 rfl rfl hH29 (seg_sub 1 rfl) (CellsAt.one rfl) ?_)
    refine s_op (o_callf (vs := #[(.pointer none), kv]) ca32 rfl (args2 rfl rfl) (dn_crash hH29.all kv) ?_)
    rintro _ w34 ⟨rfl, hX32⟩
    refine ⟨_, rfl, ?_⟩
    have hH33 := hX32.of_all
    refine s_nil ?_
    refine t_norm (hK31 _ _ ?_)
    refine wp_seq_k fun K35 hK35 => ?_
    refine c_region ?_
    refine s_op (o_move (v := (.pointer none)) rfl ?_)
    refine s_op (o_fieldAddr (k := 1) (fun _ => by kernel_rfl) rfl ?_)
    refine s_op (o_load1 (v := (.int .i64 n)) Try.underlying3 rfl rfl hH33 (seg_sub 1 rfl) (CellsAt.one rfl) ?_)
    refine s_op (o_callf (vs := #[(.pointer none), (.int .i64 n)]) ca33 rfl (args2 rfl rfl) (dn_read hH33.all n) ?_)
    rintro _ w38 ⟨rfl, hX36⟩
    refine ⟨_, rfl, ?_⟩
    have hH37 := hX36.of_all
    refine s_op (o_move (v := (.tuple #[(S ([] : List UInt8)), (.int .i64 (1 : Int))])) rfl ?_)
    refine s_op (o_extract (v := (S ([] : List UInt8))) rfl rfl ?_)
    refine s_op (o_extract (v := (.int .i64 (1 : Int))) rfl rfl ?_)
    refine s_op (o_assign (v := (S ([] : List UInt8))) rfl ?_)
    refine s_op (o_assign (v := (.int .i64 (1 : Int))) rfl ?_)
    refine s_nil ?_
    refine t_norm (hK35 _ _ ?_)
    refine wp_seq_k fun K39 hK39 => ?_
    by_cases h40 : ([] : List UInt8) = ([] : List UInt8)
    · -- ([] : List UInt8) = ([] : List UInt8)
      by_cases h41 : (1 : Int) = 1
      · -- (1 : Int) = 1
        by_cases h42 : ((0 : Nat) : Int) = 0
        · -- ((0 : Nat) : Int) = 0
          by_cases h43 : (0 : Int) = 0
          · -- (0 : Int) = 0
            refine c_flow3 [[Hp.one b7 (.cells #[(.int .i64 kd), (.int .i64 n), (.bool ot), dv, kv] 104 (0, 0))], [Hp.one b2 (.cells #[(.int .i64 kd), (.int .i64 n), (.bool ot), dv, kv] 104 (0, 0))], R] (fun i_ => match i_ with | _ => []) (fun i_ v_ h_ m_ => match i_ with | 0 => v_ = (S ([] : List UInt8)) ∧ h_ = [] | 1 => v_ = (.bool (decide (([] : List UInt8) = ([] : List UInt8)))) ∧ h_ = [] | 2 => v_ = (.bool (decide (([] : List UInt8) = ([] : List UInt8)))) ∧ h_ = [] | 3 => v_ = (.int .i64 (1 : Int)) ∧ h_ = [] | 4 => v_ = (.bool (decide ((1 : Int) = 1))) ∧ h_ = [] | 5 => v_ = (.bool (decide ((1 : Int) = 1))) ∧ h_ = [] | 6 => v_ = (.bool (decide ((1 : Int) = 1))) ∧ h_ = [] | 7 => v_ = (.pointer none) ∧ h_ = [] | 8 => v_ = (.pointer (some ⟨b2, 1, none⟩)) ∧ h_ = [] | 9 => v_ = (.int .i64 n) ∧ h_ = [] | 10 => v_ = (.pointer (some ⟨b2, 3, none⟩)) ∧ h_ = [] | 11 => v_ = dv ∧ h_ = [] | 12 => v_ = (.int .i64 (1 : Int)) ∧ h_ = [] | 13 => v_ = (.bool (decide ((1 : Int) = 1))) ∧ h_ = [] | 14 => v_ = (.bool (decide ((1 : Int) = 1))) ∧ h_ = [] | 15 => v_ = (.bool (decide ((1 : Int) = 1))) ∧ h_ = [] | 16 => v_ = (.pointer none) ∧ h_ = [] | 17 => v_ = (.int .i64 (1 : Int)) ∧ h_ = [] | 18 => v_ = (.bool (decide ((1 : Int) = 1))) ∧ h_ = [] | 19 => v_ = (.bool (decide ((1 : Int) = 1))) ∧ h_ = [] | 20 => v_ = (.bool (decide ((1 : Int) = 1))) ∧ h_ = [] | 21 => v_ = (.pointer none) ∧ h_ = [] | 22 => v_ = (.pointer (some ⟨b2, 1, none⟩)) ∧ h_ = [] | 23 => v_ = (.int .i64 n) ∧ h_ = [] | 24 => v_ = (.pointer (some ⟨b2, 3, none⟩)) ∧ h_ = [] | 25 => v_ = dv ∧ h_ = [] | 26 => v_ = (S da.flatten) ∧ h_ = [] | 27 => v_ = (.int .i64 (1 : Int)) ∧ h_ = [] | 28 => v_ = (.bool (decide ((1 : Int) = 1))) ∧ h_ = [] | 29 => v_ = (.bool (decide ((1 : Int) = 1))) ∧ h_ = [] | 30 => v_ = (.bool (decide ((1 : Int) = 1))) ∧ h_ = [] | 31 => v_ = (.pointer none) ∧ h_ = [] | 32 => v_ = (.pointer (some ⟨b2, 1, none⟩)) ∧ h_ = [] | 33 => v_ = (.int .i64 n) ∧ h_ = [] | 34 => v_ = (S ([] : List UInt8)) ∧ h_ = [] | 35 => v_ = (.bool (decide (([] : List UInt8) = ([] : List UInt8)))) ∧ h_ = [] | 36 => v_ = (.bool (decide (([] : List UInt8) = ([] : List UInt8)))) ∧ h_ = [] | 37 => v_ = (.bool (decide (([] : List UInt8) = ([] : List UInt8)))) ∧ h_ = [] | 38 => v_ = (.pointer none) ∧ h_ = [] | 39 => v_ = (.slice none 0 0) ∧ h_ = [] | 40 => v_ = (.int .i64 ((0 : Nat) : Int)) ∧ h_ = [] | 41 => v_ = (.bool (decide (((0 : Nat) : Int) = 0))) ∧ h_ = [] | 42 => v_ = (.bool (decide (((0 : Nat) : Int) = 0))) ∧ h_ = [] | 43 => v_ = (.bool (decide (((0 : Nat) : Int) = 0))) ∧ h_ = [] | 44 => v_ = (.pointer none) ∧ h_ = [] | 45 => v_ = (.int .i64 (0 : Int)) ∧ h_ = [] | 46 => v_ = (.bool (decide ((0 : Int) = 0))) ∧ h_ = [] | 47 => v_ = (.bool (decide ((0 : Int) = 0))) ∧ h_ = [] | 48 => v_ = (.bool (decide ((0 : Int) = 0))) ∧ h_ = [] | 49 => v_ = (.pointer none) ∧ h_ = [] | 50 => v_ = (.bool false) ∧ h_ = [] | 51 => v_ = (.bool true) ∧ h_ = [] | 52 => v_ = (.bool true) ∧ h_ = [] | 53 => v_ = (.bool true) ∧ h_ = [] | 54 => v_ = (.pointer none) ∧ h_ = [] | 55 => v_ = (.int .i64 (0 : Int)) ∧ h_ = [] | 56 => v_ = (.bool (decide ((0 : Int) = 0))) ∧ h_ = [] | 57 => v_ = (.bool (decide ((0 : Int) = 0))) ∧ h_ = [] | 58 => v_ = (.bool (decide ((0 : Int) = 0))) ∧ h_ = [] | 59 => v_ = (.pointer none) ∧ h_ = [] | 60 => v_ = (.bool false) ∧ h_ = [] | 61 => v_ = (.bool true) ∧ h_ = [] | 62 => v_ = (.bool true) ∧ h_ = [] | 63 => v_ = (.bool true) ∧ h_ = [] | 64 => v_ = (.pointer none) ∧ h_ = [] | 65 => v_ = (.int .i64 (0 : Int)) ∧ h_ = [] | 66 => v_ = (.bool (decide ((0 : Int) = 0))) ∧ h_ = [] | 67 => v_ = (.bool (decide ((0 : Int) = 0))) ∧ h_ = [] | 68 => v_ = (.bool (decide ((0 : Int) = 0))) ∧ h_ = [] | 69 => v_ = (.bool true) ∧ h_ = [] | 70 => v_ = (.bool true) ∧ h_ = [] | 71 => v_ = (.bool true) ∧ h_ = [] | _ => True) mixed (by kernel_rfl) (flow_has (cs := []) hH37 rfl) ?_ ?_
            · intro i_ o_ ho_ r' w' G hs_ ht
              match i_, ho_ with
              | 0, ho_ =>
                obtain rfl := Option.some.inj ho_
                have e5 : r' 5 = (S ([] : List UInt8)) := ht.was 5 (by kernel_rfl)
                have hG := ht.has.drop
                refine GOK.free rfl ?_
                refine o_move (v := (S ([] : List UInt8))) e5 ?_
                exact ⟨_, ⟨rfl, rfl⟩, hG⟩
              | 1, ho_ =>
                obtain rfl := Option.some.inj ho_
                obtain ⟨e30, eh0⟩ := (ht.done 0 _ rfl rfl).1
                have hG := ht.has.drop
                refine GOK.free rfl ?_
                refine o_seql (a := ([] : List UInt8)) (b := ([] : List UInt8)) e30 rfl ?_
                exact ⟨_, ⟨rfl, rfl⟩, hG⟩
              | 2, ho_ =>
                obtain rfl := Option.some.inj ho_
                obtain ⟨e31, eh1⟩ := (ht.done 1 _ rfl rfl).1
                have hG := ht.has.drop
                refine GOK.free rfl ?_
                refine o_move (v := (.bool (decide (([] : List UInt8) = ([] : List UInt8))))) e31 ?_
                exact ⟨_, ⟨rfl, rfl⟩, hG⟩
              | 3, ho_ =>
                obtain rfl := Option.some.inj ho_
                obtain ⟨e32, eh2⟩ := (ht.done 2 _ rfl rfl).1
                have e6 : r' 6 = (.int .i64 (1 : Int)) := ht.was 6 (by kernel_rfl)
                have hG := ht.has.drop
                refine GOK.on rfl rfl (Eq.trans e32 (congrArg Value.bool (decide_eq_true h40))) ?_
                refine o_move (v := (.int .i64 (1 : Int))) e6 ?_
                exact ⟨_, ⟨rfl, rfl⟩, hG⟩
              | 4, ho_ =>
                obtain rfl := Option.some.inj ho_
                obtain ⟨e32, eh2⟩ := (ht.done 2 _ rfl rfl).1
                obtain ⟨e33, eh3⟩ := (ht.done 3 _ rfl rfl).1
                have hG := ht.has.drop
                refine GOK.on rfl rfl (Eq.trans e32 (congrArg Value.bool (decide_eq_true h40))) ?_
                refine o_eql (a := (1 : Int)) (b := 1) e33 rfl ?_
                exact ⟨_, ⟨rfl, rfl⟩, hG⟩
              | 5, ho_ =>
                obtain rfl := Option.some.inj ho_
                obtain ⟨e32, eh2⟩ := (ht.done 2 _ rfl rfl).1
                obtain ⟨e34, eh4⟩ := (ht.done 4 _ rfl rfl).1
                have hG := ht.has.drop
                refine GOK.free rfl ?_
                refine o_pick_t (u := (.bool (decide ((1 : Int) = 1)))) ((e32 : _ = _).trans (congrArg Value.bool (decide_eq_true h40))) e34 ?_
                exact ⟨_, ⟨rfl, rfl⟩, hG⟩
              | 6, ho_ =>
                obtain rfl := Option.some.inj ho_
                obtain ⟨e35, eh5⟩ := (ht.done 5 _ rfl rfl).1
                have hG := ht.has.drop
                refine GOK.free rfl ?_
                refine o_move (v := (.bool (decide ((1 : Int) = 1)))) e35 ?_
                exact ⟨_, ⟨rfl, rfl⟩, hG⟩
              | 7, ho_ =>
                obtain rfl := Option.some.inj ho_
                obtain ⟨e36, eh6⟩ := (ht.done 6 _ rfl rfl).1
                have e3 : r' 3 = (.pointer none) := ht.was 3 (by kernel_rfl)
                have hG := ht.has.drop
                refine GOK.on rfl rfl (Eq.trans e36 (congrArg Value.bool (decide_eq_true h41))) ?_
                refine o_move (v := (.pointer none)) e3 ?_
                exact ⟨_, ⟨rfl, rfl⟩, hG⟩
              | 8, ho_ =>
                obtain rfl := Option.some.inj ho_
                obtain ⟨e36, eh6⟩ := (ht.done 6 _ rfl rfl).1
                have e1 : r' 1 = (.pointer (some ⟨b2, 0, none⟩)) := ht.was 1 (by kernel_rfl)
                have hG := ht.has.drop
                refine GOK.on rfl rfl (Eq.trans e36 (congrArg Value.bool (decide_eq_true h41))) ?_
                refine o_fieldAddr (k := 1) (fun _ => by kernel_rfl) e1 ?_
                exact ⟨_, ⟨rfl, rfl⟩, hG⟩
              | 9, ho_ =>
                obtain rfl := Option.some.inj ho_
                obtain ⟨e36, eh6⟩ := (ht.done 6 _ rfl rfl).1
                obtain ⟨e38, eh8⟩ := (ht.done 8 _ rfl rfl).1
                have hG := ht.has.drop
                refine GOK.on rfl rfl (Eq.trans e36 (congrArg Value.bool (decide_eq_true h41))) ?_
                refine o_load1 (v := (.int .i64 n)) Try.underlying3 rfl e38 hG (ht.fr [Hp.one b2 (.cells #[(.int .i64 kd), (.int .i64 n), (.bool ot), dv, kv] 104 (0, 0))] (by simp)) (CellsAt.one rfl) ?_
                exact ⟨_, ⟨rfl, rfl⟩, hG⟩
              | 10, ho_ =>
                obtain rfl := Option.some.inj ho_
                obtain ⟨e36, eh6⟩ := (ht.done 6 _ rfl rfl).1
                have e1 : r' 1 = (.pointer (some ⟨b2, 0, none⟩)) := ht.was 1 (by kernel_rfl)
                have hG := ht.has.drop
                refine GOK.on rfl rfl (Eq.trans e36 (congrArg Value.bool (decide_eq_true h41))) ?_
                refine o_fieldAddr (k := 3) (fun _ => by kernel_rfl) e1 ?_
                exact ⟨_, ⟨rfl, rfl⟩, hG⟩
              | 11, ho_ =>
                obtain rfl := Option.some.inj ho_
                obtain ⟨e36, eh6⟩ := (ht.done 6 _ rfl rfl).1
                obtain ⟨e40, eh10⟩ := (ht.done 10 _ rfl rfl).1
                have hG := ht.has.drop
                refine GOK.on rfl rfl (Eq.trans e36 (congrArg Value.bool (decide_eq_true h41))) ?_
                refine o_load1 (v := dv) Try.underlying53 rfl e40 hG (ht.fr [Hp.one b2 (.cells #[(.int .i64 kd), (.int .i64 n), (.bool ot), dv, kv] 104 (0, 0))] (by simp)) (CellsAt.one rfl) ?_
                exact ⟨_, ⟨rfl, rfl⟩, hG⟩
              | 12, ho_ =>
                obtain rfl := Option.some.inj ho_
                obtain ⟨e36, eh6⟩ := (ht.done 6 _ rfl rfl).1
                obtain ⟨e37, eh7⟩ := (ht.done 7 _ rfl rfl).1
                obtain ⟨e39, eh9⟩ := (ht.done 9 _ rfl rfl).1
                obtain ⟨e41, eh11⟩ := (ht.done 11 _ rfl rfl).1
                have hG := ht.has.drop
                refine GOK.on rfl rfl (Eq.trans e36 (congrArg Value.bool (decide_eq_true h41))) ?_
                refine o_callf (vs := #[(.pointer none), (.int .i64 n), dv]) ca29 rfl (args3 e37 e39 e41) (dn_write hG.all n dv) ?_
                rintro _ w46 ⟨rfl, hX44⟩
                refine ⟨_, rfl, ?_⟩
                have hH45 := hX44.of_all
                exact ⟨_, ⟨rfl, rfl⟩, hH45⟩
              | 13, ho_ =>
                obtain rfl := Option.some.inj ho_
                obtain ⟨e36, eh6⟩ := (ht.done 6 _ rfl rfl).1
                obtain ⟨e42, eh12⟩ := (ht.done 12 _ rfl rfl).1
                have hG := ht.has.drop
                refine GOK.on rfl rfl (Eq.trans e36 (congrArg Value.bool (decide_eq_true h41))) ?_
                refine o_eql (a := (1 : Int)) (b := 1) e42 rfl ?_
                exact ⟨_, ⟨rfl, rfl⟩, hG⟩
              | 14, ho_ =>
                obtain rfl := Option.some.inj ho_
                obtain ⟨e36, eh6⟩ := (ht.done 6 _ rfl rfl).1
                obtain ⟨e43, eh13⟩ := (ht.done 13 _ rfl rfl).1
                have hG := ht.has.drop
                refine GOK.free rfl ?_
                refine o_pick_t (u := (.bool (decide ((1 : Int) = 1)))) ((e36 : _ = _).trans (congrArg Value.bool (decide_eq_true h41))) e43 ?_
                exact ⟨_, ⟨rfl, rfl⟩, hG⟩
              | 15, ho_ =>
                obtain rfl := Option.some.inj ho_
                obtain ⟨e44, eh14⟩ := (ht.done 14 _ rfl rfl).1
                have hG := ht.has.drop
                refine GOK.free rfl ?_
                refine o_move (v := (.bool (decide ((1 : Int) = 1)))) e44 ?_
                exact ⟨_, ⟨rfl, rfl⟩, hG⟩
              | 16, ho_ =>
                obtain rfl := Option.some.inj ho_
                obtain ⟨e45, eh15⟩ := (ht.done 15 _ rfl rfl).1
                have e3 : r' 3 = (.pointer none) := ht.was 3 (by kernel_rfl)
                have hG := ht.has.drop
                refine GOK.on rfl rfl (Eq.trans e45 (congrArg Value.bool (decide_eq_true h41))) ?_
                refine o_move (v := (.pointer none)) e3 ?_
                exact ⟨_, ⟨rfl, rfl⟩, hG⟩
              | 17, ho_ =>
                obtain rfl := Option.some.inj ho_
                obtain ⟨e45, eh15⟩ := (ht.done 15 _ rfl rfl).1
                obtain ⟨e46, eh16⟩ := (ht.done 16 _ rfl rfl).1
                have hG := ht.has.drop
                refine GOK.on rfl rfl (Eq.trans e45 (congrArg Value.bool (decide_eq_true h41))) ?_
                refine o_callf (vs := #[(.pointer none)]) ca31 rfl (args1 e46) (dn_sync hG.all ) ?_
                rintro _ w49 ⟨rfl, hX47⟩
                refine ⟨_, rfl, ?_⟩
                have hH48 := hX47.of_all
                exact ⟨_, ⟨rfl, rfl⟩, hH48⟩
              | 18, ho_ =>
                obtain rfl := Option.some.inj ho_
                obtain ⟨e45, eh15⟩ := (ht.done 15 _ rfl rfl).1
                obtain ⟨e47, eh17⟩ := (ht.done 17 _ rfl rfl).1
                have hG := ht.has.drop
                refine GOK.on rfl rfl (Eq.trans e45 (congrArg Value.bool (decide_eq_true h41))) ?_
                refine o_eql (a := (1 : Int)) (b := 1) e47 rfl ?_
                exact ⟨_, ⟨rfl, rfl⟩, hG⟩
              | 19, ho_ =>
                obtain rfl := Option.some.inj ho_
                obtain ⟨e45, eh15⟩ := (ht.done 15 _ rfl rfl).1
                obtain ⟨e48, eh18⟩ := (ht.done 18 _ rfl rfl).1
                have hG := ht.has.drop
                refine GOK.free rfl ?_
                refine o_pick_t (u := (.bool (decide ((1 : Int) = 1)))) ((e45 : _ = _).trans (congrArg Value.bool (decide_eq_true h41))) e48 ?_
                exact ⟨_, ⟨rfl, rfl⟩, hG⟩
              | 20, ho_ =>
                obtain rfl := Option.some.inj ho_
                obtain ⟨e49, eh19⟩ := (ht.done 19 _ rfl rfl).1
                have hG := ht.has.drop
                refine GOK.free rfl ?_
                refine o_move (v := (.bool (decide ((1 : Int) = 1)))) e49 ?_
                exact ⟨_, ⟨rfl, rfl⟩, hG⟩
              | 21, ho_ =>
                obtain rfl := Option.some.inj ho_
                obtain ⟨e50, eh20⟩ := (ht.done 20 _ rfl rfl).1
                have e3 : r' 3 = (.pointer none) := ht.was 3 (by kernel_rfl)
                have hG := ht.has.drop
                refine GOK.on rfl rfl (Eq.trans e50 (congrArg Value.bool (decide_eq_true h41))) ?_
                refine o_move (v := (.pointer none)) e3 ?_
                exact ⟨_, ⟨rfl, rfl⟩, hG⟩
              | 22, ho_ =>
                obtain rfl := Option.some.inj ho_
                obtain ⟨e50, eh20⟩ := (ht.done 20 _ rfl rfl).1
                have e1 : r' 1 = (.pointer (some ⟨b2, 0, none⟩)) := ht.was 1 (by kernel_rfl)
                have hG := ht.has.drop
                refine GOK.on rfl rfl (Eq.trans e50 (congrArg Value.bool (decide_eq_true h41))) ?_
                refine o_fieldAddr (k := 1) (fun _ => by kernel_rfl) e1 ?_
                exact ⟨_, ⟨rfl, rfl⟩, hG⟩
              | 23, ho_ =>
                obtain rfl := Option.some.inj ho_
                obtain ⟨e50, eh20⟩ := (ht.done 20 _ rfl rfl).1
                obtain ⟨e52, eh22⟩ := (ht.done 22 _ rfl rfl).1
                have hG := ht.has.drop
                refine GOK.on rfl rfl (Eq.trans e50 (congrArg Value.bool (decide_eq_true h41))) ?_
                refine o_load1 (v := (.int .i64 n)) Try.underlying3 rfl e52 hG (ht.fr [Hp.one b2 (.cells #[(.int .i64 kd), (.int .i64 n), (.bool ot), dv, kv] 104 (0, 0))] (by simp)) (CellsAt.one rfl) ?_
                exact ⟨_, ⟨rfl, rfl⟩, hG⟩
              | 24, ho_ =>
                obtain rfl := Option.some.inj ho_
                obtain ⟨e50, eh20⟩ := (ht.done 20 _ rfl rfl).1
                have e1 : r' 1 = (.pointer (some ⟨b2, 0, none⟩)) := ht.was 1 (by kernel_rfl)
                have hG := ht.has.drop
                refine GOK.on rfl rfl (Eq.trans e50 (congrArg Value.bool (decide_eq_true h41))) ?_
                refine o_fieldAddr (k := 3) (fun _ => by kernel_rfl) e1 ?_
                exact ⟨_, ⟨rfl, rfl⟩, hG⟩
              | 25, ho_ =>
                obtain rfl := Option.some.inj ho_
                obtain ⟨e50, eh20⟩ := (ht.done 20 _ rfl rfl).1
                obtain ⟨e54, eh24⟩ := (ht.done 24 _ rfl rfl).1
                have hG := ht.has.drop
                refine GOK.on rfl rfl (Eq.trans e50 (congrArg Value.bool (decide_eq_true h41))) ?_
                refine o_load1 (v := dv) Try.underlying53 rfl e54 hG (ht.fr [Hp.one b2 (.cells #[(.int .i64 kd), (.int .i64 n), (.bool ot), dv, kv] 104 (0, 0))] (by simp)) (CellsAt.one rfl) ?_
                exact ⟨_, ⟨rfl, rfl⟩, hG⟩
              | 26, ho_ =>
                obtain rfl := Option.some.inj ho_
                obtain ⟨e50, eh20⟩ := (ht.done 20 _ rfl rfl).1
                obtain ⟨e55, eh25⟩ := (ht.done 25 _ rfl rfl).1
                have hG := ht.has.drop
                refine GOK.on rfl rfl (Eq.trans e50 (congrArg Value.bool (decide_eq_true h41))) ?_
                refine o_callf (vs := #[dv]) ca53 rfl (args1 e55) (ljoin_c hG.all (l := da) (hm.1.mono (ht.fr R (by simp))) hm.2.2.1 (by omega)) ?_
                rintro _ w52 ⟨rfl, hX50⟩
                refine ⟨_, rfl, ?_⟩
                have hH51 := hX50.of_all
                exact ⟨_, ⟨rfl, rfl⟩, hH51⟩
              | 27, ho_ =>
                obtain rfl := Option.some.inj ho_
                obtain ⟨e50, eh20⟩ := (ht.done 20 _ rfl rfl).1
                obtain ⟨e51, eh21⟩ := (ht.done 21 _ rfl rfl).1
                obtain ⟨e53, eh23⟩ := (ht.done 23 _ rfl rfl).1
                obtain ⟨e56, eh26⟩ := (ht.done 26 _ rfl rfl).1
                have hG := ht.has.drop
                refine GOK.on rfl rfl (Eq.trans e50 (congrArg Value.bool (decide_eq_true h41))) ?_
                refine o_callf (vs := #[(.pointer none), (.int .i64 n), (S da.flatten)]) ca52 rfl (args3 e51 e53 e56) (dn_put hG.all n da.flatten (by omega)) ?_
                rintro _ w55 ⟨rfl, hX53⟩
                refine ⟨_, rfl, ?_⟩
                have hH54 := hX53.of_all
                exact ⟨_, ⟨rfl, rfl⟩, hH54⟩
              | 28, ho_ =>
                obtain rfl := Option.some.inj ho_
                obtain ⟨e50, eh20⟩ := (ht.done 20 _ rfl rfl).1
                obtain ⟨e57, eh27⟩ := (ht.done 27 _ rfl rfl).1
                have hG := ht.has.drop
                refine GOK.on rfl rfl (Eq.trans e50 (congrArg Value.bool (decide_eq_true h41))) ?_
                refine o_eql (a := (1 : Int)) (b := 1) e57 rfl ?_
                exact ⟨_, ⟨rfl, rfl⟩, hG⟩
              | 29, ho_ =>
                obtain rfl := Option.some.inj ho_
                obtain ⟨e50, eh20⟩ := (ht.done 20 _ rfl rfl).1
                obtain ⟨e58, eh28⟩ := (ht.done 28 _ rfl rfl).1
                have hG := ht.has.drop
                refine GOK.free rfl ?_
                refine o_pick_t (u := (.bool (decide ((1 : Int) = 1)))) ((e50 : _ = _).trans (congrArg Value.bool (decide_eq_true h41))) e58 ?_
                exact ⟨_, ⟨rfl, rfl⟩, hG⟩
              | 30, ho_ =>
                obtain rfl := Option.some.inj ho_
                obtain ⟨e59, eh29⟩ := (ht.done 29 _ rfl rfl).1
                have hG := ht.has.drop
                refine GOK.free rfl ?_
                refine o_move (v := (.bool (decide ((1 : Int) = 1)))) e59 ?_
                exact ⟨_, ⟨rfl, rfl⟩, hG⟩
              | 31, ho_ =>
                obtain rfl := Option.some.inj ho_
                obtain ⟨e60, eh30⟩ := (ht.done 30 _ rfl rfl).1
                have e3 : r' 3 = (.pointer none) := ht.was 3 (by kernel_rfl)
                have hG := ht.has.drop
                refine GOK.on rfl rfl (Eq.trans e60 (congrArg Value.bool (decide_eq_true h41))) ?_
                refine o_move (v := (.pointer none)) e3 ?_
                exact ⟨_, ⟨rfl, rfl⟩, hG⟩
              | 32, ho_ =>
                obtain rfl := Option.some.inj ho_
                obtain ⟨e60, eh30⟩ := (ht.done 30 _ rfl rfl).1
                have e1 : r' 1 = (.pointer (some ⟨b2, 0, none⟩)) := ht.was 1 (by kernel_rfl)
                have hG := ht.has.drop
                refine GOK.on rfl rfl (Eq.trans e60 (congrArg Value.bool (decide_eq_true h41))) ?_
                refine o_fieldAddr (k := 1) (fun _ => by kernel_rfl) e1 ?_
                exact ⟨_, ⟨rfl, rfl⟩, hG⟩
              | 33, ho_ =>
                obtain rfl := Option.some.inj ho_
                obtain ⟨e60, eh30⟩ := (ht.done 30 _ rfl rfl).1
                obtain ⟨e62, eh32⟩ := (ht.done 32 _ rfl rfl).1
                have hG := ht.has.drop
                refine GOK.on rfl rfl (Eq.trans e60 (congrArg Value.bool (decide_eq_true h41))) ?_
                refine o_load1 (v := (.int .i64 n)) Try.underlying3 rfl e62 hG (ht.fr [Hp.one b2 (.cells #[(.int .i64 kd), (.int .i64 n), (.bool ot), dv, kv] 104 (0, 0))] (by simp)) (CellsAt.one rfl) ?_
                exact ⟨_, ⟨rfl, rfl⟩, hG⟩
              | 34, ho_ =>
                obtain rfl := Option.some.inj ho_
                obtain ⟨e60, eh30⟩ := (ht.done 30 _ rfl rfl).1
                obtain ⟨e61, eh31⟩ := (ht.done 31 _ rfl rfl).1
                obtain ⟨e63, eh33⟩ := (ht.done 33 _ rfl rfl).1
                have hG := ht.has.drop
                refine GOK.on rfl rfl (Eq.trans e60 (congrArg Value.bool (decide_eq_true h41))) ?_
                refine o_callf (vs := #[(.pointer none), (.int .i64 n)]) ca51 rfl (args2 e61 e63) (dn_lasts hG.all n) ?_
                rintro _ w58 ⟨rfl, hX56⟩
                refine ⟨_, rfl, ?_⟩
                have hH57 := hX56.of_all
                exact ⟨_, ⟨rfl, rfl⟩, hH57⟩
              | 35, ho_ =>
                obtain rfl := Option.some.inj ho_
                obtain ⟨e60, eh30⟩ := (ht.done 30 _ rfl rfl).1
                obtain ⟨e64, eh34⟩ := (ht.done 34 _ rfl rfl).1
                have hG := ht.has.drop
                refine GOK.on rfl rfl (Eq.trans e60 (congrArg Value.bool (decide_eq_true h41))) ?_
                refine o_seql (a := ([] : List UInt8)) (b := ([] : List UInt8)) e64 rfl ?_
                exact ⟨_, ⟨rfl, rfl⟩, hG⟩
              | 36, ho_ =>
                obtain rfl := Option.some.inj ho_
                obtain ⟨e60, eh30⟩ := (ht.done 30 _ rfl rfl).1
                obtain ⟨e65, eh35⟩ := (ht.done 35 _ rfl rfl).1
                have hG := ht.has.drop
                refine GOK.free rfl ?_
                refine o_pick_t (u := (.bool (decide (([] : List UInt8) = ([] : List UInt8))))) ((e60 : _ = _).trans (congrArg Value.bool (decide_eq_true h41))) e65 ?_
                exact ⟨_, ⟨rfl, rfl⟩, hG⟩
              | 37, ho_ =>
                obtain rfl := Option.some.inj ho_
                obtain ⟨e66, eh36⟩ := (ht.done 36 _ rfl rfl).1
                have hG := ht.has.drop
                refine GOK.free rfl ?_
                refine o_move (v := (.bool (decide (([] : List UInt8) = ([] : List UInt8))))) e66 ?_
                exact ⟨_, ⟨rfl, rfl⟩, hG⟩
              | 38, ho_ =>
                obtain rfl := Option.some.inj ho_
                obtain ⟨e67, eh37⟩ := (ht.done 37 _ rfl rfl).1
                have e3 : r' 3 = (.pointer none) := ht.was 3 (by kernel_rfl)
                have hG := ht.has.drop
                refine GOK.on rfl rfl (Eq.trans e67 (congrArg Value.bool (decide_eq_true h40))) ?_
                refine o_move (v := (.pointer none)) e3 ?_
                exact ⟨_, ⟨rfl, rfl⟩, hG⟩
              | 39, ho_ =>
                obtain rfl := Option.some.inj ho_
                obtain ⟨e67, eh37⟩ := (ht.done 37 _ rfl rfl).1
                obtain ⟨e68, eh38⟩ := (ht.done 38 _ rfl rfl).1
                have hG := ht.has.drop
                refine GOK.on rfl rfl (Eq.trans e67 (congrArg Value.bool (decide_eq_true h40))) ?_
                refine o_callf (vs := #[(.pointer none)]) ca35 rfl (args1 e68) (dn_loose hG.all ) ?_
                rintro _ w61 ⟨rfl, hX59⟩
                refine ⟨_, rfl, ?_⟩
                have hH60 := hX59.of_all
                exact ⟨_, ⟨rfl, rfl⟩, hH60⟩
              | 40, ho_ =>
                obtain rfl := Option.some.inj ho_
                obtain ⟨e67, eh37⟩ := (ht.done 37 _ rfl rfl).1
                obtain ⟨e69, eh39⟩ := (ht.done 39 _ rfl rfl).1
                have hG := ht.has.drop
                refine GOK.on rfl rfl (Eq.trans e67 (congrArg Value.bool (decide_eq_true h40))) ?_
                refine o_lenS Try.underlying54 e69 (sl_nil (L := []) 1) ?_
                exact ⟨_, ⟨rfl, rfl⟩, hG⟩
              | 41, ho_ =>
                obtain rfl := Option.some.inj ho_
                obtain ⟨e67, eh37⟩ := (ht.done 37 _ rfl rfl).1
                obtain ⟨e70, eh40⟩ := (ht.done 40 _ rfl rfl).1
                have hG := ht.has.drop
                refine GOK.on rfl rfl (Eq.trans e67 (congrArg Value.bool (decide_eq_true h40))) ?_
                refine o_eql (a := ((0 : Nat) : Int)) (b := 0) e70 rfl ?_
                exact ⟨_, ⟨rfl, rfl⟩, hG⟩
              | 42, ho_ =>
                obtain rfl := Option.some.inj ho_
                obtain ⟨e67, eh37⟩ := (ht.done 37 _ rfl rfl).1
                obtain ⟨e71, eh41⟩ := (ht.done 41 _ rfl rfl).1
                have hG := ht.has.drop
                refine GOK.free rfl ?_
                refine o_pick_t (u := (.bool (decide (((0 : Nat) : Int) = 0)))) ((e67 : _ = _).trans (congrArg Value.bool (decide_eq_true h40))) e71 ?_
                exact ⟨_, ⟨rfl, rfl⟩, hG⟩
              | 43, ho_ =>
                obtain rfl := Option.some.inj ho_
                obtain ⟨e72, eh42⟩ := (ht.done 42 _ rfl rfl).1
                have hG := ht.has.drop
                refine GOK.free rfl ?_
                refine o_move (v := (.bool (decide (((0 : Nat) : Int) = 0)))) e72 ?_
                exact ⟨_, ⟨rfl, rfl⟩, hG⟩
              | 44, ho_ =>
                obtain rfl := Option.some.inj ho_
                obtain ⟨e73, eh43⟩ := (ht.done 43 _ rfl rfl).1
                have e3 : r' 3 = (.pointer none) := ht.was 3 (by kernel_rfl)
                have hG := ht.has.drop
                refine GOK.on rfl rfl (Eq.trans e73 (congrArg Value.bool (decide_eq_true h42))) ?_
                refine o_move (v := (.pointer none)) e3 ?_
                exact ⟨_, ⟨rfl, rfl⟩, hG⟩
              | 45, ho_ =>
                obtain rfl := Option.some.inj ho_
                obtain ⟨e73, eh43⟩ := (ht.done 43 _ rfl rfl).1
                obtain ⟨e74, eh44⟩ := (ht.done 44 _ rfl rfl).1
                have hG := ht.has.drop
                refine GOK.on rfl rfl (Eq.trans e73 (congrArg Value.bool (decide_eq_true h42))) ?_
                refine o_callf (vs := #[(.pointer none)]) ca61 rfl (args1 e74) (dn_sectors hG.all ) ?_
                rintro _ w64 ⟨rfl, hX62⟩
                refine ⟨_, rfl, ?_⟩
                have hH63 := hX62.of_all
                exact ⟨_, ⟨rfl, rfl⟩, hH63⟩
              | 46, ho_ =>
                obtain rfl := Option.some.inj ho_
                obtain ⟨e73, eh43⟩ := (ht.done 43 _ rfl rfl).1
                obtain ⟨e75, eh45⟩ := (ht.done 45 _ rfl rfl).1
                have hG := ht.has.drop
                refine GOK.on rfl rfl (Eq.trans e73 (congrArg Value.bool (decide_eq_true h42))) ?_
                refine o_eql (a := (0 : Int)) (b := 0) e75 rfl ?_
                exact ⟨_, ⟨rfl, rfl⟩, hG⟩
              | 47, ho_ =>
                obtain rfl := Option.some.inj ho_
                obtain ⟨e73, eh43⟩ := (ht.done 43 _ rfl rfl).1
                obtain ⟨e76, eh46⟩ := (ht.done 46 _ rfl rfl).1
                have hG := ht.has.drop
                refine GOK.free rfl ?_
                refine o_pick_t (u := (.bool (decide ((0 : Int) = 0)))) ((e73 : _ = _).trans (congrArg Value.bool (decide_eq_true h42))) e76 ?_
                exact ⟨_, ⟨rfl, rfl⟩, hG⟩
              | 48, ho_ =>
                obtain rfl := Option.some.inj ho_
                obtain ⟨e77, eh47⟩ := (ht.done 47 _ rfl rfl).1
                have hG := ht.has.drop
                refine GOK.free rfl ?_
                refine o_move (v := (.bool (decide ((0 : Int) = 0)))) e77 ?_
                exact ⟨_, ⟨rfl, rfl⟩, hG⟩
              | 49, ho_ =>
                obtain rfl := Option.some.inj ho_
                obtain ⟨e78, eh48⟩ := (ht.done 48 _ rfl rfl).1
                have e3 : r' 3 = (.pointer none) := ht.was 3 (by kernel_rfl)
                have hG := ht.has.drop
                refine GOK.on rfl rfl (Eq.trans e78 (congrArg Value.bool (decide_eq_true h43))) ?_
                refine o_move (v := (.pointer none)) e3 ?_
                exact ⟨_, ⟨rfl, rfl⟩, hG⟩
              | 50, ho_ =>
                obtain rfl := Option.some.inj ho_
                obtain ⟨e78, eh48⟩ := (ht.done 48 _ rfl rfl).1
                obtain ⟨e79, eh49⟩ := (ht.done 49 _ rfl rfl).1
                have hG := ht.has.drop
                refine GOK.on rfl rfl (Eq.trans e78 (congrArg Value.bool (decide_eq_true h43))) ?_
                refine o_callf (vs := #[(.pointer none)]) ca62 rfl (args1 e79) (dn_on hG.all ) ?_
                rintro _ w67 ⟨rfl, hX65⟩
                refine ⟨_, rfl, ?_⟩
                have hH66 := hX65.of_all
                exact ⟨_, ⟨rfl, rfl⟩, hH66⟩
              | 51, ho_ =>
                obtain rfl := Option.some.inj ho_
                obtain ⟨e78, eh48⟩ := (ht.done 48 _ rfl rfl).1
                obtain ⟨e80, eh50⟩ := (ht.done 50 _ rfl rfl).1
                have hG := ht.has.drop
                refine GOK.on rfl rfl (Eq.trans e78 (congrArg Value.bool (decide_eq_true h43))) ?_
                refine o_not e80 ?_
                exact ⟨_, ⟨rfl, rfl⟩, hG⟩
              | 52, ho_ =>
                obtain rfl := Option.some.inj ho_
                obtain ⟨e78, eh48⟩ := (ht.done 48 _ rfl rfl).1
                obtain ⟨e81, eh51⟩ := (ht.done 51 _ rfl rfl).1
                have hG := ht.has.drop
                refine GOK.free rfl ?_
                refine o_pick_t (u := (.bool true)) ((e78 : _ = _).trans (congrArg Value.bool (decide_eq_true h43))) e81 ?_
                exact ⟨_, ⟨rfl, rfl⟩, hG⟩
              | 53, ho_ =>
                obtain rfl := Option.some.inj ho_
                obtain ⟨e82, eh52⟩ := (ht.done 52 _ rfl rfl).1
                have hG := ht.has.drop
                refine GOK.free rfl ?_
                refine o_move (v := (.bool true)) e82 ?_
                exact ⟨_, ⟨rfl, rfl⟩, hG⟩
              | 54, ho_ =>
                obtain rfl := Option.some.inj ho_
                obtain ⟨e83, eh53⟩ := (ht.done 53 _ rfl rfl).1
                have e3 : r' 3 = (.pointer none) := ht.was 3 (by kernel_rfl)
                have hG := ht.has.drop
                refine GOK.on rfl rfl e83 ?_
                refine o_move (v := (.pointer none)) e3 ?_
                exact ⟨_, ⟨rfl, rfl⟩, hG⟩
              | 55, ho_ =>
                obtain rfl := Option.some.inj ho_
                obtain ⟨e83, eh53⟩ := (ht.done 53 _ rfl rfl).1
                obtain ⟨e84, eh54⟩ := (ht.done 54 _ rfl rfl).1
                have hG := ht.has.drop
                refine GOK.on rfl rfl e83 ?_
                refine o_callf (vs := #[(.pointer none)]) ca63 rfl (args1 e84) (dn_uses hG.all ) ?_
                rintro _ w70 ⟨rfl, hX68⟩
                refine ⟨_, rfl, ?_⟩
                have hH69 := hX68.of_all
                exact ⟨_, ⟨rfl, rfl⟩, hH69⟩
              | 56, ho_ =>
                obtain rfl := Option.some.inj ho_
                obtain ⟨e83, eh53⟩ := (ht.done 53 _ rfl rfl).1
                obtain ⟨e85, eh55⟩ := (ht.done 55 _ rfl rfl).1
                have hG := ht.has.drop
                refine GOK.on rfl rfl e83 ?_
                refine o_eql (a := (0 : Int)) (b := 0) e85 rfl ?_
                exact ⟨_, ⟨rfl, rfl⟩, hG⟩
              | 57, ho_ =>
                obtain rfl := Option.some.inj ho_
                obtain ⟨e83, eh53⟩ := (ht.done 53 _ rfl rfl).1
                obtain ⟨e86, eh56⟩ := (ht.done 56 _ rfl rfl).1
                have hG := ht.has.drop
                refine GOK.free rfl ?_
                refine o_pick_t (u := (.bool (decide ((0 : Int) = 0)))) e83 e86 ?_
                exact ⟨_, ⟨rfl, rfl⟩, hG⟩
              | 58, ho_ =>
                obtain rfl := Option.some.inj ho_
                obtain ⟨e87, eh57⟩ := (ht.done 57 _ rfl rfl).1
                have hG := ht.has.drop
                refine GOK.free rfl ?_
                refine o_move (v := (.bool (decide ((0 : Int) = 0)))) e87 ?_
                exact ⟨_, ⟨rfl, rfl⟩, hG⟩
              | 59, ho_ =>
                obtain rfl := Option.some.inj ho_
                obtain ⟨e88, eh58⟩ := (ht.done 58 _ rfl rfl).1
                have e4 : r' 4 = (.pointer none) := ht.was 4 (by kernel_rfl)
                have hG := ht.has.drop
                refine GOK.on rfl rfl (Eq.trans e88 (congrArg Value.bool (decide_eq_true h43))) ?_
                refine o_move (v := (.pointer none)) e4 ?_
                exact ⟨_, ⟨rfl, rfl⟩, hG⟩
              | 60, ho_ =>
                obtain rfl := Option.some.inj ho_
                obtain ⟨e88, eh58⟩ := (ht.done 58 _ rfl rfl).1
                obtain ⟨e89, eh59⟩ := (ht.done 59 _ rfl rfl).1
                have hG := ht.has.drop
                refine GOK.on rfl rfl (Eq.trans e88 (congrArg Value.bool (decide_eq_true h43))) ?_
                refine o_callf (vs := #[(.pointer none)]) ca57 rfl (args1 e89) (pn_on hG.all ) ?_
                rintro _ w73 ⟨rfl, hX71⟩
                refine ⟨_, rfl, ?_⟩
                have hH72 := hX71.of_all
                exact ⟨_, ⟨rfl, rfl⟩, hH72⟩
              | 61, ho_ =>
                obtain rfl := Option.some.inj ho_
                obtain ⟨e88, eh58⟩ := (ht.done 58 _ rfl rfl).1
                obtain ⟨e90, eh60⟩ := (ht.done 60 _ rfl rfl).1
                have hG := ht.has.drop
                refine GOK.on rfl rfl (Eq.trans e88 (congrArg Value.bool (decide_eq_true h43))) ?_
                refine o_not e90 ?_
                exact ⟨_, ⟨rfl, rfl⟩, hG⟩
              | 62, ho_ =>
                obtain rfl := Option.some.inj ho_
                obtain ⟨e88, eh58⟩ := (ht.done 58 _ rfl rfl).1
                obtain ⟨e91, eh61⟩ := (ht.done 61 _ rfl rfl).1
                have hG := ht.has.drop
                refine GOK.free rfl ?_
                refine o_pick_t (u := (.bool true)) ((e88 : _ = _).trans (congrArg Value.bool (decide_eq_true h43))) e91 ?_
                exact ⟨_, ⟨rfl, rfl⟩, hG⟩
              | 63, ho_ =>
                obtain rfl := Option.some.inj ho_
                obtain ⟨e92, eh62⟩ := (ht.done 62 _ rfl rfl).1
                have hG := ht.has.drop
                refine GOK.free rfl ?_
                refine o_move (v := (.bool true)) e92 ?_
                exact ⟨_, ⟨rfl, rfl⟩, hG⟩
              | 64, ho_ =>
                obtain rfl := Option.some.inj ho_
                obtain ⟨e93, eh63⟩ := (ht.done 63 _ rfl rfl).1
                have e4 : r' 4 = (.pointer none) := ht.was 4 (by kernel_rfl)
                have hG := ht.has.drop
                refine GOK.on rfl rfl e93 ?_
                refine o_move (v := (.pointer none)) e4 ?_
                exact ⟨_, ⟨rfl, rfl⟩, hG⟩
              | 65, ho_ =>
                obtain rfl := Option.some.inj ho_
                obtain ⟨e93, eh63⟩ := (ht.done 63 _ rfl rfl).1
                obtain ⟨e94, eh64⟩ := (ht.done 64 _ rfl rfl).1
                have hG := ht.has.drop
                refine GOK.on rfl rfl e93 ?_
                refine o_callf (vs := #[(.pointer none)]) ca58 rfl (args1 e94) (pn_uses hG.all ) ?_
                rintro _ w76 ⟨rfl, hX74⟩
                refine ⟨_, rfl, ?_⟩
                have hH75 := hX74.of_all
                exact ⟨_, ⟨rfl, rfl⟩, hH75⟩
              | 66, ho_ =>
                obtain rfl := Option.some.inj ho_
                obtain ⟨e93, eh63⟩ := (ht.done 63 _ rfl rfl).1
                obtain ⟨e95, eh65⟩ := (ht.done 65 _ rfl rfl).1
                have hG := ht.has.drop
                refine GOK.on rfl rfl e93 ?_
                refine o_eql (a := (0 : Int)) (b := 0) e95 rfl ?_
                exact ⟨_, ⟨rfl, rfl⟩, hG⟩
              | 67, ho_ =>
                obtain rfl := Option.some.inj ho_
                obtain ⟨e93, eh63⟩ := (ht.done 63 _ rfl rfl).1
                obtain ⟨e96, eh66⟩ := (ht.done 66 _ rfl rfl).1
                have hG := ht.has.drop
                refine GOK.free rfl ?_
                refine o_pick_t (u := (.bool (decide ((0 : Int) = 0)))) e93 e96 ?_
                exact ⟨_, ⟨rfl, rfl⟩, hG⟩
              | 68, ho_ =>
                obtain rfl := Option.some.inj ho_
                obtain ⟨e97, eh67⟩ := (ht.done 67 _ rfl rfl).1
                have hG := ht.has.drop
                refine GOK.free rfl ?_
                refine o_move (v := (.bool (decide ((0 : Int) = 0)))) e97 ?_
                exact ⟨_, ⟨rfl, rfl⟩, hG⟩
              | 69, ho_ =>
                obtain rfl := Option.some.inj ho_
                obtain ⟨e98, eh68⟩ := (ht.done 68 _ rfl rfl).1
                have hG := ht.has.drop
                refine GOK.on rfl rfl (Eq.trans e98 (congrArg Value.bool (decide_eq_true h43))) ?_
                refine o_callf (vs := #[]) ca27 rfl (args0) (awake5_c hG.all) ?_
                rintro _ w79 ⟨rfl, hX77⟩
                refine ⟨_, rfl, ?_⟩
                have hH78 := hX77.of_all
                exact ⟨_, ⟨rfl, rfl⟩, hH78⟩
              | 70, ho_ =>
                obtain rfl := Option.some.inj ho_
                obtain ⟨e98, eh68⟩ := (ht.done 68 _ rfl rfl).1
                obtain ⟨e99, eh69⟩ := (ht.done 69 _ rfl rfl).1
                have hG := ht.has.drop
                refine GOK.free rfl ?_
                refine o_pick_t (u := (.bool true)) ((e98 : _ = _).trans (congrArg Value.bool (decide_eq_true h43))) e99 ?_
                exact ⟨_, ⟨rfl, rfl⟩, hG⟩
              | 71, ho_ =>
                obtain rfl := Option.some.inj ho_
                obtain ⟨e100, eh70⟩ := (ht.done 70 _ rfl rfl).1
                have hG := ht.has.drop
                refine GOK.free rfl ?_
                refine o_assign (v := (.bool true)) e100 ?_
                exact ⟨_, ⟨rfl, rfl⟩, hG⟩
              | i_ + 72, ho_ => exact absurd ho_ (by simp)
            · intro vs80 hs81 w82 hT83 hH84
              obtain ⟨e0_, eh0_⟩ := hT83 0 _ rfl
              obtain ⟨e1_, eh1_⟩ := hT83 1 _ rfl
              obtain ⟨e2_, eh2_⟩ := hT83 2 _ rfl
              obtain ⟨e3_, eh3_⟩ := hT83 3 _ rfl
              obtain ⟨e4_, eh4_⟩ := hT83 4 _ rfl
              obtain ⟨e5_, eh5_⟩ := hT83 5 _ rfl
              obtain ⟨e6_, eh6_⟩ := hT83 6 _ rfl
              obtain ⟨e7_, eh7_⟩ := hT83 7 _ rfl
              obtain ⟨e8_, eh8_⟩ := hT83 8 _ rfl
              obtain ⟨e9_, eh9_⟩ := hT83 9 _ rfl
              obtain ⟨e10_, eh10_⟩ := hT83 10 _ rfl
              obtain ⟨e11_, eh11_⟩ := hT83 11 _ rfl
              obtain ⟨e12_, eh12_⟩ := hT83 12 _ rfl
              obtain ⟨e13_, eh13_⟩ := hT83 13 _ rfl
              obtain ⟨e14_, eh14_⟩ := hT83 14 _ rfl
              obtain ⟨e15_, eh15_⟩ := hT83 15 _ rfl
              obtain ⟨e16_, eh16_⟩ := hT83 16 _ rfl
              obtain ⟨e17_, eh17_⟩ := hT83 17 _ rfl
              obtain ⟨e18_, eh18_⟩ := hT83 18 _ rfl
              obtain ⟨e19_, eh19_⟩ := hT83 19 _ rfl
              obtain ⟨e20_, eh20_⟩ := hT83 20 _ rfl
              obtain ⟨e21_, eh21_⟩ := hT83 21 _ rfl
              obtain ⟨e22_, eh22_⟩ := hT83 22 _ rfl
              obtain ⟨e23_, eh23_⟩ := hT83 23 _ rfl
              obtain ⟨e24_, eh24_⟩ := hT83 24 _ rfl
              obtain ⟨e25_, eh25_⟩ := hT83 25 _ rfl
              obtain ⟨e26_, eh26_⟩ := hT83 26 _ rfl
              obtain ⟨e27_, eh27_⟩ := hT83 27 _ rfl
              obtain ⟨e28_, eh28_⟩ := hT83 28 _ rfl
              obtain ⟨e29_, eh29_⟩ := hT83 29 _ rfl
              obtain ⟨e30_, eh30_⟩ := hT83 30 _ rfl
              obtain ⟨e31_, eh31_⟩ := hT83 31 _ rfl
              obtain ⟨e32_, eh32_⟩ := hT83 32 _ rfl
              obtain ⟨e33_, eh33_⟩ := hT83 33 _ rfl
              obtain ⟨e34_, eh34_⟩ := hT83 34 _ rfl
              obtain ⟨e35_, eh35_⟩ := hT83 35 _ rfl
              obtain ⟨e36_, eh36_⟩ := hT83 36 _ rfl
              obtain ⟨e37_, eh37_⟩ := hT83 37 _ rfl
              obtain ⟨e38_, eh38_⟩ := hT83 38 _ rfl
              obtain ⟨e39_, eh39_⟩ := hT83 39 _ rfl
              obtain ⟨e40_, eh40_⟩ := hT83 40 _ rfl
              obtain ⟨e41_, eh41_⟩ := hT83 41 _ rfl
              obtain ⟨e42_, eh42_⟩ := hT83 42 _ rfl
              obtain ⟨e43_, eh43_⟩ := hT83 43 _ rfl
              obtain ⟨e44_, eh44_⟩ := hT83 44 _ rfl
              obtain ⟨e45_, eh45_⟩ := hT83 45 _ rfl
              obtain ⟨e46_, eh46_⟩ := hT83 46 _ rfl
              obtain ⟨e47_, eh47_⟩ := hT83 47 _ rfl
              obtain ⟨e48_, eh48_⟩ := hT83 48 _ rfl
              obtain ⟨e49_, eh49_⟩ := hT83 49 _ rfl
              obtain ⟨e50_, eh50_⟩ := hT83 50 _ rfl
              obtain ⟨e51_, eh51_⟩ := hT83 51 _ rfl
              obtain ⟨e52_, eh52_⟩ := hT83 52 _ rfl
              obtain ⟨e53_, eh53_⟩ := hT83 53 _ rfl
              obtain ⟨e54_, eh54_⟩ := hT83 54 _ rfl
              obtain ⟨e55_, eh55_⟩ := hT83 55 _ rfl
              obtain ⟨e56_, eh56_⟩ := hT83 56 _ rfl
              obtain ⟨e57_, eh57_⟩ := hT83 57 _ rfl
              obtain ⟨e58_, eh58_⟩ := hT83 58 _ rfl
              obtain ⟨e59_, eh59_⟩ := hT83 59 _ rfl
              obtain ⟨e60_, eh60_⟩ := hT83 60 _ rfl
              obtain ⟨e61_, eh61_⟩ := hT83 61 _ rfl
              obtain ⟨e62_, eh62_⟩ := hT83 62 _ rfl
              obtain ⟨e63_, eh63_⟩ := hT83 63 _ rfl
              obtain ⟨e64_, eh64_⟩ := hT83 64 _ rfl
              obtain ⟨e65_, eh65_⟩ := hT83 65 _ rfl
              obtain ⟨e66_, eh66_⟩ := hT83 66 _ rfl
              obtain ⟨e67_, eh67_⟩ := hT83 67 _ rfl
              obtain ⟨e68_, eh68_⟩ := hT83 68 _ rfl
              obtain ⟨e69_, eh69_⟩ := hT83 69 _ rfl
              obtain ⟨e70_, eh70_⟩ := hT83 70 _ rfl
              obtain ⟨e71_, eh71_⟩ := hT83 71 _ rfl
              have hH85 : Has E w82 ([[Hp.one b7 (.cells #[(.int .i64 kd), (.int .i64 n), (.bool ot), dv, kv] 104 (0, 0))], [Hp.one b2 (.cells #[(.int .i64 kd), (.int .i64 n), (.bool ot), dv, kv] 104 (0, 0))], R] ++ []) := flow_back (cs := []) hH84 (by show (hs81 0 ++ (hs81 1 ++ (hs81 2 ++ (hs81 3 ++ (hs81 4 ++ (hs81 5 ++ (hs81 6 ++ (hs81 7 ++ (hs81 8 ++ (hs81 9 ++ (hs81 10 ++ (hs81 11 ++ (hs81 12 ++ (hs81 13 ++ (hs81 14 ++ (hs81 15 ++ (hs81 16 ++ (hs81 17 ++ (hs81 18 ++ (hs81 19 ++ (hs81 20 ++ (hs81 21 ++ (hs81 22 ++ (hs81 23 ++ (hs81 24 ++ (hs81 25 ++ (hs81 26 ++ (hs81 27 ++ (hs81 28 ++ (hs81 29 ++ (hs81 30 ++ (hs81 31 ++ (hs81 32 ++ (hs81 33 ++ (hs81 34 ++ (hs81 35 ++ (hs81 36 ++ (hs81 37 ++ (hs81 38 ++ (hs81 39 ++ (hs81 40 ++ (hs81 41 ++ (hs81 42 ++ (hs81 43 ++ (hs81 44 ++ (hs81 45 ++ (hs81 46 ++ (hs81 47 ++ (hs81 48 ++ (hs81 49 ++ (hs81 50 ++ (hs81 51 ++ (hs81 52 ++ (hs81 53 ++ (hs81 54 ++ (hs81 55 ++ (hs81 56 ++ (hs81 57 ++ (hs81 58 ++ (hs81 59 ++ (hs81 60 ++ (hs81 61 ++ (hs81 62 ++ (hs81 63 ++ (hs81 64 ++ (hs81 65 ++ (hs81 66 ++ (hs81 67 ++ (hs81 68 ++ (hs81 69 ++ (hs81 70 ++ (hs81 71 ++ [])))))))))))))))))))))))))))))))))))))))))))))))))))))))))))))))))))))))) = _; rw [eh0_, eh1_, eh2_, eh3_, eh4_, eh5_, eh6_, eh7_, eh8_, eh9_, eh10_, eh11_, eh12_, eh13_, eh14_, eh15_, eh16_, eh17_, eh18_, eh19_, eh20_, eh21_, eh22_, eh23_, eh24_, eh25_, eh26_, eh27_, eh28_, eh29_, eh30_, eh31_, eh32_, eh33_, eh34_, eh35_, eh36_, eh37_, eh38_, eh39_, eh40_, eh41_, eh42_, eh43_, eh44_, eh45_, eh46_, eh47_, eh48_, eh49_, eh50_, eh51_, eh52_, eh53_, eh54_, eh55_, eh56_, eh57_, eh58_, eh59_, eh60_, eh61_, eh62_, eh63_, eh64_, eh65_, eh66_, eh67_, eh68_, eh69_, eh70_, eh71_]; rfl)
              generalize hr87 : puts vs80 _ 0 _ = r86
              have e88_0 : r86 0 = (.agg #[(.int .i64 kd), (.int .i64 n), (.bool ot), dv, kv]) := by rw [← hr87]; exact rfl
              have e88_1 : r86 1 = (.pointer (some ⟨b2, 0, none⟩)) := by rw [← hr87]; exact rfl
              have e88_2 : r86 2 = (.bool true) := by rw [← hr87]; exact e71_
              have e88_3 : r86 3 = (.pointer none) := by rw [← hr87]; exact rfl
              have e88_4 : r86 4 = (.pointer none) := by rw [← hr87]; exact rfl
              have e88_5 : r86 5 = (S ([] : List UInt8)) := by rw [← hr87]; exact rfl
              have e88_6 : r86 6 = (.int .i64 (1 : Int)) := by rw [← hr87]; exact rfl
              have e88_9 : r86 9 = (.bool gb10) := by rw [← hr87]; exact rfl
              refine t_norm (hK39 _ _ ?_)
              refine wp_ret ?_
              refine c_ret1 Try.results13  (v := (.bool true)) e88_2 ?_
              have hH89 : Has E w82 [R] := (hH85.front 2 rfl).first 1 rfl
              exact ⟨rfl, hH89⟩
          · -- not: (0 : Int) = 0
            exact absurd rfl h43
        · -- not: ((0 : Nat) : Int) = 0
          exact absurd rfl h42
      · -- not: (1 : Int) = 1
        exact absurd rfl h41
    · -- not: ([] : List UInt8) = ([] : List UInt8)
      exact absurd rfl h40
end Go.Q
