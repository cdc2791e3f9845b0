/-
  Parts of a walk: what functions of the program compute, each told by a theorem (Qvp11, QEq, QvEq, Qvp6, Qvp12, Qvp8).
-/
import Derived.Test.YtcjjknilhceeeaaGreatDoorB4
import Derived.Laws.StructEq
set_option linter.unusedVariables false
set_option linter.unusedSimpArgs false
set_option linter.unnecessarySimpa false
namespace Go.Q
open Go.Proofs
set_option linter.unusedVariables false
set_option maxRecDepth 100000
attribute [local irreducible] wpList OK Code.wp
set_option maxHeartbeats 4000000 in
theorem r11laid_c {E w : World} {R : List Hp} {no : Int} {gsn : Int} {v_l : Value} {l : List Cel}  (hH : Has E w [R]) (h_l : Sl R 2 v_l l.length (l.flatMap ceC)) (hr : pageR no gsn l = true) :
    Calls Tryz.prog 71 #[(.agg #[(.int .i64 no), (.int .i64 gsn), v_l])] w fun e w' => e = .returned (S (laidP no gsn l)) ∧ Has E w' [R] := by
  have hP_ := pageR_iff.1 hr
  have hCe_ := cellsR_iff.1 hP_.2
  have hBl_ := bodyB_len hr
  have hn_ := h_l.le
  refine c_enter (args := [(.agg #[(.int .i64 no), (.int .i64 gsn), v_l])]) Tryz.func71 rfl Tryz.ntmps71 (by simp) ?_
  refine wp_seq_k fun K1 hK1 => ?_
  refine c_region ?_
  refine s_op (o_box (cs := #[(.int .i64 no), (.int .i64 gsn), v_l]) rfl rfl hH fun b2 w3 hH4 => ?_)
  refine s_op (o_assign (v := (S ([] : List UInt8))) rfl ?_)
  refine s_nil ?_
  refine t_norm (hK1 _ _ ?_)
  refine wp_seq_k fun K5 hK5 => ?_
  refine c_flow [[Hp.one b2 (.cells #[(.int .i64 no), (.int .i64 gsn), v_l] 36 (0, 0))], R] (fun i_ => match i_ with | _ => []) (fun i_ v_ h_ => match i_ with | 0 => v_ = (.pointer (some ⟨b2, 0, none⟩)) ∧ h_ = [] | 1 => v_ = (.int .i64 no) ∧ h_ = [] | 2 => v_ = (bV (by8 no)) ∧ h_ = [] | 3 => ∃ (b6 : Nat), v_ = (.slice (some ⟨b6, 0, none⟩) 1 1) ∧ h_ = [Hp.one b6 (.cells #[(bV (by8 no))] 5 (0, 0))] | 4 => v_ = (S [(by8 no)]) ∧ h_ = [] | 5 => v_ = (.pointer (some ⟨b2, 1, none⟩)) ∧ h_ = [] | 6 => v_ = (.int .i64 gsn) ∧ h_ = [] | 7 => v_ = (S (beFrom gsn 8)) ∧ h_ = [] | 8 => v_ = (S ([(by8 no)] ++ (beFrom gsn 8))) ∧ h_ = [] | 9 => v_ = (.pointer (some ⟨b2, 2, none⟩)) ∧ h_ = [] | 10 => v_ = v_l ∧ h_ = [] | 11 => v_ = (.int .i64 ((l.length : Nat) : Int)) ∧ h_ = [] | 12 => v_ = (bV (by8 ((l.length : Nat) : Int))) ∧ h_ = [] | 13 => ∃ (b12 : Nat), v_ = (.slice (some ⟨b12, 0, none⟩) 1 1) ∧ h_ = [Hp.one b12 (.cells #[(bV (by8 ((l.length : Nat) : Int)))] 5 (0, 0))] | 14 => v_ = (S [(by8 ((l.length : Nat) : Int))]) ∧ h_ = [] | 15 => v_ = (S (([(by8 no)] ++ (beFrom gsn 8)) ++ [(by8 ((l.length : Nat) : Int))])) ∧ h_ = [] | 16 => v_ = (S (([(by8 no)] ++ (beFrom gsn 8)) ++ [(by8 ((l.length : Nat) : Int))])) ∧ h_ = [] | _ => True) mixed (by kernel_rfl) (flow_has (cs := []) hH4 rfl) ?_ ?_
  · intro i_ o_ ho_ r' w' G hs_ ht
    match i_, ho_ with
    | 0, ho_ =>
      obtain rfl := Option.some.inj ho_
      have e1 : r' 1 = (.pointer (some ⟨b2, 0, none⟩)) := ht.was 1 (by kernel_rfl)
      have hG := ht.has.drop
      refine o_fieldAddr (k := 0) (fun _ => by kernel_rfl) e1 ?_
      exact ⟨_, ⟨rfl, rfl⟩, hG⟩
    | 1, ho_ =>
      obtain rfl := Option.some.inj ho_
      obtain ⟨e6, eh0⟩ := (ht.done 0 _ rfl rfl).1
      have hG := ht.has.drop
      refine o_load1 (v := (.int .i64 no)) Tryz.underlying3 rfl e6 hG (ht.fr [Hp.one b2 (.cells #[(.int .i64 no), (.int .i64 gsn), v_l] 36 (0, 0))] (by simp)) (CellsAt.one rfl) ?_
      exact ⟨_, ⟨rfl, rfl⟩, hG⟩
    | 2, ho_ =>
      obtain rfl := Option.some.inj ho_
      obtain ⟨e7, eh1⟩ := (ht.done 1 _ rfl rfl).1
      have hG := ht.has.drop
      refine o_conv (c := ((by8 no).toNat : Int)) Tryz.underlying3 Tryz.underlying5 e7 (wrap_by8 _) ?_
      exact ⟨_, ⟨rfl, rfl⟩, hG⟩
    | 3, ho_ =>
      obtain rfl := Option.some.inj ho_
      obtain ⟨e8, eh2⟩ := (ht.done 2 _ rfl rfl).1
      have hG := ht.has.drop
      refine o_buildSlice (ps := #[(0, (bV (by8 no)))]) (cells := #[(bV (by8 no))]) Tryz.underlying54 ti5 (by decide) (parts1 e8) (by kernel_rfl) hG fun b6 w7 hH8 => ?_
      exact ⟨_, ⟨b6, rfl, rfl⟩, hH8⟩
    | 4, ho_ =>
      obtain rfl := Option.some.inj ho_
      obtain ⟨b6, e9, eh3⟩ := (ht.done 3 _ rfl rfl).1
      have hG := ht.has.drop
      refine o_bstr Tryz.underlying54 Tryz.underlying5 Tryz.underlying9 e9 (sl_lit (f := bV) (l := [(by8 no)]) rfl rfl (by simp)) hG (eh3 ▸ (ht.done 3 _ rfl rfl).2) ?_
      exact ⟨_, ⟨rfl, rfl⟩, hG⟩
    | 5, ho_ =>
      obtain rfl := Option.some.inj ho_
      have e1 : r' 1 = (.pointer (some ⟨b2, 0, none⟩)) := ht.was 1 (by kernel_rfl)
      have hG := ht.has.drop
      refine o_fieldAddr (k := 1) (fun _ => by kernel_rfl) e1 ?_
      exact ⟨_, ⟨rfl, rfl⟩, hG⟩
    | 6, ho_ =>
      obtain rfl := Option.some.inj ho_
      obtain ⟨e11, eh5⟩ := (ht.done 5 _ rfl rfl).1
      have hG := ht.has.drop
      refine o_load1 (v := (.int .i64 gsn)) Tryz.underlying3 rfl e11 hG (ht.fr [Hp.one b2 (.cells #[(.int .i64 no), (.int .i64 gsn), v_l] 36 (0, 0))] (by simp)) (CellsAt.one rfl) ?_
      exact ⟨_, ⟨rfl, rfl⟩, hG⟩
    | 7, ho_ =>
      obtain rfl := Option.some.inj ho_
      obtain ⟨e12, eh6⟩ := (ht.done 6 _ rfl rfl).1
      have hG := ht.has.drop
      refine o_callf (vs := #[(.int .i64 8), (.int .i64 gsn)]) ca109 rfl (args2 rfl e12) (rlaid_c hG.all 8 (by decide) gsn (by omega) (fits_lit (b := 9223372036854775808) (by omega) (by omega) (by decide) (by decide) (by omega))) ?_
      rintro _ w11 ⟨rfl, hX9⟩
      refine ⟨_, rfl, ?_⟩
      have hH10 := hX9.of_all
      exact ⟨_, ⟨rfl, rfl⟩, hH10⟩
    | 8, ho_ =>
      obtain rfl := Option.some.inj ho_
      obtain ⟨b6, e9, eh3⟩ := (ht.done 3 _ rfl rfl).1
      obtain ⟨e10, eh4⟩ := (ht.done 4 _ rfl rfl).1
      obtain ⟨e13, eh7⟩ := (ht.done 7 _ rfl rfl).1
      have hG := ht.has.drop
      refine o_sadd e10 e13 (by first | omega | (simp only [List.length_append, List.length_cons, List.length_nil, beFrom_length, laidS_len]; omega)) ?_
      exact ⟨_, ⟨rfl, rfl⟩, hG⟩
    | 9, ho_ =>
      obtain rfl := Option.some.inj ho_
      have e1 : r' 1 = (.pointer (some ⟨b2, 0, none⟩)) := ht.was 1 (by kernel_rfl)
      have hG := ht.has.drop
      refine o_fieldAddr (k := 2) (fun _ => by kernel_rfl) e1 ?_
      exact ⟨_, ⟨rfl, rfl⟩, hG⟩
    | 10, ho_ =>
      obtain rfl := Option.some.inj ho_
      obtain ⟨e15, eh9⟩ := (ht.done 9 _ rfl rfl).1
      have hG := ht.has.drop
      refine o_load1 (v := v_l) Tryz.underlying34 rfl e15 hG (ht.fr [Hp.one b2 (.cells #[(.int .i64 no), (.int .i64 gsn), v_l] 36 (0, 0))] (by simp)) (CellsAt.one rfl) ?_
      exact ⟨_, ⟨rfl, rfl⟩, hG⟩
    | 11, ho_ =>
      obtain rfl := Option.some.inj ho_
      obtain ⟨e16, eh10⟩ := (ht.done 10 _ rfl rfl).1
      have hG := ht.has.drop
      refine o_lenS Tryz.underlying34 e16 h_l ?_
      exact ⟨_, ⟨rfl, rfl⟩, hG⟩
    | 12, ho_ =>
      obtain rfl := Option.some.inj ho_
      obtain ⟨e17, eh11⟩ := (ht.done 11 _ rfl rfl).1
      have hG := ht.has.drop
      refine o_conv (c := ((by8 ((l.length : Nat) : Int)).toNat : Int)) Tryz.underlying3 Tryz.underlying5 e17 (wrap_by8 _) ?_
      exact ⟨_, ⟨rfl, rfl⟩, hG⟩
    | 13, ho_ =>
      obtain rfl := Option.some.inj ho_
      obtain ⟨e18, eh12⟩ := (ht.done 12 _ rfl rfl).1
      have hG := ht.has.drop
      refine o_buildSlice (ps := #[(0, (bV (by8 ((l.length : Nat) : Int))))]) (cells := #[(bV (by8 ((l.length : Nat) : Int)))]) Tryz.underlying54 ti5 (by decide) (parts1 e18) (by kernel_rfl) hG fun b12 w13 hH14 => ?_
      exact ⟨_, ⟨b12, rfl, rfl⟩, hH14⟩
    | 14, ho_ =>
      obtain rfl := Option.some.inj ho_
      obtain ⟨b12, e19, eh13⟩ := (ht.done 13 _ rfl rfl).1
      have hG := ht.has.drop
      refine o_bstr Tryz.underlying54 Tryz.underlying5 Tryz.underlying9 e19 (sl_lit (f := bV) (l := [(by8 ((l.length : Nat) : Int))]) rfl rfl (by simp)) hG (eh13 ▸ (ht.done 13 _ rfl rfl).2) ?_
      exact ⟨_, ⟨rfl, rfl⟩, hG⟩
    | 15, ho_ =>
      obtain rfl := Option.some.inj ho_
      obtain ⟨b6, e9, eh3⟩ := (ht.done 3 _ rfl rfl).1
      obtain ⟨e14, eh8⟩ := (ht.done 8 _ rfl rfl).1
      obtain ⟨b12, e19, eh13⟩ := (ht.done 13 _ rfl rfl).1
      obtain ⟨e20, eh14⟩ := (ht.done 14 _ rfl rfl).1
      have hG := ht.has.drop
      refine o_sadd e14 e20 (by first | omega | (simp only [List.length_append, List.length_cons, List.length_nil, beFrom_length, laidS_len]; omega)) ?_
      exact ⟨_, ⟨rfl, rfl⟩, hG⟩
    | 16, ho_ =>
      obtain rfl := Option.some.inj ho_
      obtain ⟨b6, e9, eh3⟩ := (ht.done 3 _ rfl rfl).1
      obtain ⟨b12, e19, eh13⟩ := (ht.done 13 _ rfl rfl).1
      obtain ⟨e21, eh15⟩ := (ht.done 15 _ rfl rfl).1
      have hG := ht.has.drop
      refine o_assign (v := (S (([(by8 no)] ++ (beFrom gsn 8)) ++ [(by8 ((l.length : Nat) : Int))]))) e21 ?_
      exact ⟨_, ⟨rfl, rfl⟩, hG⟩
    | i_ + 17, ho_ => exact absurd ho_ (by simp)
  · intro vs15 hs16 w17 hT18 hH19
    obtain ⟨e0_, eh0_⟩ := hT18 0 _ rfl
    obtain ⟨e1_, eh1_⟩ := hT18 1 _ rfl
    obtain ⟨e2_, eh2_⟩ := hT18 2 _ rfl
    obtain ⟨b6, e3_, eh3_⟩ := hT18 3 _ rfl
    obtain ⟨e4_, eh4_⟩ := hT18 4 _ rfl
    obtain ⟨e5_, eh5_⟩ := hT18 5 _ rfl
    obtain ⟨e6_, eh6_⟩ := hT18 6 _ rfl
    obtain ⟨e7_, eh7_⟩ := hT18 7 _ rfl
    obtain ⟨e8_, eh8_⟩ := hT18 8 _ rfl
    obtain ⟨e9_, eh9_⟩ := hT18 9 _ rfl
    obtain ⟨e10_, eh10_⟩ := hT18 10 _ rfl
    obtain ⟨e11_, eh11_⟩ := hT18 11 _ rfl
    obtain ⟨e12_, eh12_⟩ := hT18 12 _ rfl
    obtain ⟨b12, e13_, eh13_⟩ := hT18 13 _ rfl
    obtain ⟨e14_, eh14_⟩ := hT18 14 _ rfl
    obtain ⟨e15_, eh15_⟩ := hT18 15 _ rfl
    obtain ⟨e16_, eh16_⟩ := hT18 16 _ rfl
    have hH20 : Has E w17 ([[Hp.one b2 (.cells #[(.int .i64 no), (.int .i64 gsn), v_l] 36 (0, 0))], R] ++ [[Hp.one b6 (.cells #[(bV (by8 no))] 5 (0, 0))], [Hp.one b12 (.cells #[(bV (by8 ((l.length : Nat) : Int)))] 5 (0, 0))]]) := flow_back (cs := [[Hp.one b6 (.cells #[(bV (by8 no))] 5 (0, 0))], [Hp.one b12 (.cells #[(bV (by8 ((l.length : Nat) : Int)))] 5 (0, 0))]]) hH19 (by show (hs16 0 ++ (hs16 1 ++ (hs16 2 ++ (hs16 3 ++ (hs16 4 ++ (hs16 5 ++ (hs16 6 ++ (hs16 7 ++ (hs16 8 ++ (hs16 9 ++ (hs16 10 ++ (hs16 11 ++ (hs16 12 ++ (hs16 13 ++ (hs16 14 ++ (hs16 15 ++ (hs16 16 ++ []))))))))))))))))) = _; rw [eh0_, eh1_, eh2_, eh3_, eh4_, eh5_, eh6_, eh7_, eh8_, eh9_, eh10_, eh11_, eh12_, eh13_, eh14_, eh15_, eh16_]; rfl)
    generalize hr22 : puts vs15 _ 0 _ = r21
    have e23_0 : r21 0 = (.agg #[(.int .i64 no), (.int .i64 gsn), v_l]) := by rw [← hr22]; exact rfl
    have e23_1 : r21 1 = (.pointer (some ⟨b2, 0, none⟩)) := by rw [← hr22]; exact rfl
    have e23_2 : r21 2 = (S ([] : List UInt8)) := by rw [← hr22]; exact rfl
    have e23_3 : r21 3 = (S (([(by8 no)] ++ (beFrom gsn 8)) ++ [(by8 ((l.length : Nat) : Int))])) := by rw [← hr22]; exact e16_
    refine t_norm (hK5 _ _ ?_)
    refine wp_seq_k fun K24 hK24 => ?_
    refine wp_seq_k fun K25 hK25 => ?_
    refine c_region ?_
    refine s_op (o_assign (v := (.int .i64 0)) rfl ?_)
    refine s_nil ?_
    refine t_norm (hK25 _ _ ?_)
    refine wp_block ?_
    let I27 : Nat → (Nat → Value) → World → Prop := fun n__ r__ w__ => ∃ (k : Nat) (t : Bs), n__ = l.length - k ∧ Has E w__ [[Hp.one b2 (.cells #[(.int .i64 no), (.int .i64 gsn), v_l] 36 (0, 0))], R, [Hp.one b6 (.cells #[(bV (by8 no))] 5 (0, 0))], [Hp.one b12 (.cells #[(bV (by8 ((l.length : Nat) : Int)))] 5 (0, 0))]] ∧ (k ≤ l.length) ∧ (t = headB no gsn l.length ++ (l.take k).flatMap cellB) ∧ (t.length ≤ 10 + 26 * k) ∧ r__ 0 = (.agg #[(.int .i64 no), (.int .i64 gsn), v_l]) ∧ r__ 1 = (.pointer (some ⟨b2, 0, none⟩)) ∧ r__ 2 = (S ([] : List UInt8)) ∧ r__ 3 = (S t) ∧ r__ 4 = (.int .i64 (k : Int))
    refine c_loop I27 _ ⟨0, (([(by8 no)] ++ (beFrom gsn 8)) ++ [(by8 ((l.length : Nat) : Int))]), rfl, hH20, Nat.zero_le _, (by (have h_ := head_ref no gsn l.length); simpa using h_), (by simp [beFrom_length]), e23_0, e23_1, e23_2, e23_3, rfl⟩ ?_
    rintro n_ r30 w28 ⟨k, t, rfl, hH29, hk, ht, htl, e26_0, e26_1, e26_2, e26_3, e26_4⟩
    refine wp_seq_k fun K31 hK31 => ?_
    refine wp_seq_k fun K32 hK32 => ?_
    refine c_region ?_
    refine s_op (o_move (v := (.int .i64 (k : Int))) e26_4 ?_)
    refine s_op (o_fieldAddr (k := 2) (fun _ => by kernel_rfl) e26_1 ?_)
    refine s_op (o_load1 (v := v_l) Tryz.underlying34 rfl rfl hH29 (seg_sub 0 rfl) (CellsAt.one rfl) ?_)
    refine s_op (o_lenS Tryz.underlying34 rfl h_l ?_)
    refine s_op (o_lss (a := (k : Int)) (b := ((l.length : Nat) : Int)) rfl rfl ?_)
    refine s_nil ?_
    refine t_norm (hK32 _ _ ?_)
    refine c_cond rfl (fun h33 => ?_) (fun h33 => ?_)
    · -- (k : Int) < ((l.length : Nat) : Int)
      refine wp_skip ?_
      refine t_norm (hK31 _ _ ?_)
      refine wp_seq_k fun K34 hK34 => ?_
      refine wp_block ?_
      refine wp_seq_k fun K35 hK35 => ?_
      refine c_region ?_
      refine s_op (o_fieldAddr (k := 2) (fun _ => by kernel_rfl) e26_1 ?_)
      refine s_op (o_load1 (v := v_l) Tryz.underlying34 rfl rfl hH29 (seg_sub 0 rfl) (CellsAt.one rfl) ?_)
      refine s_op (o_move (v := (.int .i64 (k : Int))) e26_4 ?_)
      obtain ⟨x39, hx40⟩ : ∃ x_, l[((k : Int)).toNat]? = some x_ := get_some (by omega)
      refine s_op (o_indexF ceC_len Tryz.underlying34 ti70 rfl h_l rfl rfl (by omega) hx40 fun b36 o37 hc38 => ?_)
      have hcl_ := celOk_len (hCe_.1 _ (List.mem_of_getElem? hx40))
      refine s_op (o_loadN (cs := [(S x39.1), (S x39.2)]) Tryz.underlying70 rfl ti70 rfl hH29 (seg_sub 1 rfl) hc38 ?_)
      refine s_op (o_alloc (cs := #[(S ([] : List UInt8)), (S ([] : List UInt8))]) ti70 rfl hH29 fun b41 w42 hH43 => ?_)
      refine s_eff (o_storeN (vs := [(S x39.1), (S x39.2)]) (c' := #[(S x39.1), (S x39.2)]) ti70 rfl rfl rfl rfl (by intro u hu; simp only [List.mem_cons, List.not_mem_nil, or_false] at hu; rcases hu with rfl | rfl <;> first | rfl) (by simp) (by kernel_rfl) (hH43.front 0 rfl) fun w44 hH45 => ?_)
      refine s_nil ?_
      refine t_norm (hK35 _ _ ?_)
      refine c_region ?_
      refine s_op (o_move (v := (S t)) e26_3 ?_)
      refine s_op (o_fieldAddr (k := 0) (fun _ => by kernel_rfl) rfl ?_)
      refine s_op (o_load1 (v := (S x39.1)) Tryz.underlying9 rfl rfl hH45 (seg_sub 0 rfl) (CellsAt.one rfl) ?_)
      refine s_op (o_slen Tryz.underlying9 rfl ?_)
      refine s_op (o_conv (c := ((by8 (x39.1.length : Int)).toNat : Int)) Tryz.underlying3 Tryz.underlying5 rfl (wrap_by8 _) ?_)
      refine s_op (o_buildSlice (ps := #[(0, (bV (by8 (x39.1.length : Int))))]) (cells := #[(bV (by8 (x39.1.length : Int)))]) Tryz.underlying54 ti5 (by decide) (parts1 rfl) (by kernel_rfl) hH45 fun b46 w47 hH48 => ?_)
      refine s_op (o_bstr Tryz.underlying54 Tryz.underlying5 Tryz.underlying9 rfl (sl_lit (f := bV) (l := [(by8 (x39.1.length : Int))]) rfl rfl (by simp)) hH48 (seg_sub 0 rfl) ?_)
      refine s_op (o_sadd rfl rfl (by first | omega | (simp only [List.length_append, List.length_cons, List.length_nil, beFrom_length, laidS_len]; omega)) ?_)
      refine s_op (o_fieldAddr (k := 0) (fun _ => by kernel_rfl) rfl ?_)
      refine s_op (o_load1 (v := (S x39.1)) Tryz.underlying9 rfl rfl hH48 (seg_sub 1 rfl) (CellsAt.one rfl) ?_)
      refine s_op (o_sadd rfl rfl (by first | omega | (simp only [List.length_append, List.length_cons, List.length_nil, beFrom_length, laidS_len]; omega)) ?_)
      refine s_op (o_fieldAddr (k := 1) (fun _ => by kernel_rfl) rfl ?_)
      refine s_op (o_load1 (v := (S x39.2)) Tryz.underlying9 rfl rfl hH48 (seg_sub 1 rfl) (CellsAt.one rfl) ?_)
      refine s_op (o_slen Tryz.underlying9 rfl ?_)
      refine s_op (o_conv (c := ((by8 (x39.2.length : Int)).toNat : Int)) Tryz.underlying3 Tryz.underlying5 rfl (wrap_by8 _) ?_)
      refine s_op (o_buildSlice (ps := #[(0, (bV (by8 (x39.2.length : Int))))]) (cells := #[(bV (by8 (x39.2.length : Int)))]) Tryz.underlying54 ti5 (by decide) (parts1 rfl) (by kernel_rfl) hH48 fun b49 w50 hH51 => ?_)
      refine s_op (o_bstr Tryz.underlying54 Tryz.underlying5 Tryz.underlying9 rfl (sl_lit (f := bV) (l := [(by8 (x39.2.length : Int))]) rfl rfl (by simp)) hH51 (seg_sub 0 rfl) ?_)
      refine s_op (o_sadd rfl rfl (by first | omega | (simp only [List.length_append, List.length_cons, List.length_nil, beFrom_length, laidS_len]; omega)) ?_)
      refine s_op (o_fieldAddr (k := 1) (fun _ => by kernel_rfl) rfl ?_)
      refine s_op (o_load1 (v := (S x39.2)) Tryz.underlying9 rfl rfl hH51 (seg_sub 2 rfl) (CellsAt.one rfl) ?_)
      refine s_op (o_sadd rfl rfl (by first | omega | (simp only [List.length_append, List.length_cons, List.length_nil, beFrom_length, laidS_len]; omega)) ?_)
      refine s_op (o_assign (v := (S ((((t ++ [(by8 (x39.1.length : Int))]) ++ x39.1) ++ [(by8 (x39.2.length : Int))]) ++ x39.2))) rfl ?_)
      refine s_nil ?_
      refine b_norm ?_
      refine t_norm (hK34 _ _ ?_)
      refine c_region ?_
      refine s_op (o_move (v := (.int .i64 (k : Int))) e26_4 ?_)
      refine s_op (o_add (a := (k : Int)) (b := 1) rfl rfl (w64 (by omega) (by omega)) ?_)
      refine s_op (o_assign (v := (.int .i64 ((k : Int) + 1))) rfl ?_)
      refine s_nil ?_
      have hH52 : Has E w50 [[Hp.one b2 (.cells #[(.int .i64 no), (.int .i64 gsn), v_l] 36 (0, 0))], R, [Hp.one b6 (.cells #[(bV (by8 no))] 5 (0, 0))], [Hp.one b12 (.cells #[(bV (by8 ((l.length : Nat) : Int)))] 5 (0, 0))]] := ((((hH51.front 6 rfl).front 6 rfl).front 6 rfl).front 6 rfl).first 4 rfl
      refine t_norm ⟨l.length - (k + 1), _, rfl, ?_, ?_⟩
      · omega
      · exact ⟨(k + 1), ((((t ++ [(by8 (x39.1.length : Int))]) ++ x39.1) ++ [(by8 (x39.2.length : Int))]) ++ x39.2), rfl, hH52, (by omega), (by (have h_ := cell_ref ht (show l[k]? = some _ from hx40)); exact h_), (by (have h1_ := celOk_len (hCe_.1 _ (List.mem_of_getElem? hx40))); simp only [List.length_append, List.length_cons, List.length_nil]; omega), e26_0, e26_1, e26_2, rfl, rfl⟩
    · -- not: (k : Int) < ((l.length : Nat) : Int)
      refine wp_exit ?_
      refine t_exit (t_exit (x_in (?_)))
      refine t_norm (hK24 _ _ ?_)
      refine wp_seq_k fun K53 hK53 => ?_
      refine wp_block ?_
      let I55 : Nat → (Nat → Value) → World → Prop := fun n__ r__ w__ => ∃ (u : Bs) (j : Nat), n__ = 252 - u.length ∧ Has E w__ [[Hp.one b2 (.cells #[(.int .i64 no), (.int .i64 gsn), v_l] 36 (0, 0))], R, [Hp.one b6 (.cells #[(bV (by8 no))] 5 (0, 0))], [Hp.one b12 (.cells #[(bV (by8 ((l.length : Nat) : Int)))] 5 (0, 0))]] ∧ (u = bodyB no gsn l ++ List.replicate j 0) ∧ (u.length ≤ 252) ∧ r__ 0 = (.agg #[(.int .i64 no), (.int .i64 gsn), v_l]) ∧ r__ 1 = (.pointer (some ⟨b2, 0, none⟩)) ∧ r__ 2 = (S ([] : List UInt8)) ∧ r__ 3 = (S u) ∧ r__ 4 = (.int .i64 (k : Int)) ∧ r__ 26 = (.bool (decide ((k : Int) < ((l.length : Nat) : Int))))
      refine c_loop I55 _ ⟨t, 0, rfl, hH29, (by (have e_ : k = l.length := by omega); rw [e_, List.take_length] at ht; rw [ht]; simp [bodyB]), (by omega), e26_0, e26_1, e26_2, e26_3, e26_4, rfl⟩ ?_
      rintro n_ r58 w56 ⟨u, j, rfl, hH57, hu, hul, e54_0, e54_1, e54_2, e54_3, e54_4, e54_26⟩
      refine wp_seq_k fun K59 hK59 => ?_
      refine wp_seq_k fun K60 hK60 => ?_
      refine c_region ?_
      refine s_op (o_move (v := (S u)) e54_3 ?_)
      refine s_op (o_slen Tryz.underlying9 rfl ?_)
      refine s_op (o_lss (a := (u.length : Int)) (b := 252) rfl rfl ?_)
      refine s_nil ?_
      refine t_norm (hK60 _ _ ?_)
      refine c_cond rfl (fun h61 => ?_) (fun h61 => ?_)
      · -- (u.length : Int) < 252
        refine wp_skip ?_
        refine t_norm (hK59 _ _ ?_)
        refine wp_block ?_
        refine c_region ?_
        refine s_op (o_move (v := (S u)) e54_3 ?_)
        refine s_op (o_sadd rfl rfl (by first | omega | (simp only [List.length_append, List.length_cons, List.length_nil, beFrom_length, laidS_len]; omega)) ?_)
        refine s_op (o_assign (v := (S (u ++ [0]))) rfl ?_)
        refine s_nil ?_
        refine b_norm ?_
        refine t_norm ⟨252 - (u ++ [0]).length, _, rfl, ?_, ?_⟩
        · simp only [List.length_append, List.length_cons, List.length_nil]; omega
        · exact ⟨(u ++ [0]), (j + 1), rfl, hH57, (by rw [hu, List.append_assoc, show [(0 : UInt8)] = List.replicate 1 0 from rfl, List.replicate_append_replicate]), (by simp only [List.length_append, List.length_cons, List.length_nil]; omega), e54_0, e54_1, e54_2, rfl, e54_4, e54_26⟩
      · -- not: (u.length : Int) < 252
        refine wp_exit ?_
        refine t_exit (t_exit (x_in (?_)))
        refine t_norm (hK53 _ _ ?_)
        refine wp_seq_k fun K62 hK62 => ?_
        refine c_region ?_
        refine s_op (o_move (v := (S u)) e54_3 ?_)
        refine s_op (o_move (v := (S u)) e54_3 ?_)
        refine s_op (o_callf (vs := #[(S u)]) ca110 rfl (args1 rfl) (reflaid_c hH57.all u (by omega)) ?_)
        rintro _ w65 ⟨rfl, hX63⟩
        refine ⟨_, rfl, ?_⟩
        have hH64 := hX63.of_all
        refine s_op (o_sadd rfl rfl (by first | omega | (simp only [List.length_append, List.length_cons, List.length_nil, beFrom_length, laidS_len]; omega)) ?_)
        refine s_op (o_assign (v := (S (u ++ (laidS (crcS u))))) rfl ?_)
        refine s_nil ?_
        refine t_norm (hK62 _ _ ?_)
        refine wp_ret ?_
        refine c_ret1 Tryz.results71  (v := (S (u ++ (laidS (crcS u))))) rfl ?_
        have q66 : (laidP no gsn l) = u ++ (laidS (crcS u)) := by (have h_ := full_ref hr hu (by omega)); exact h_.symm
        have hH67 : Has E w65 [R] := (hH64.front 1 rfl).first 1 rfl
        exact ⟨by rw [q66], hH67⟩
end Go.Q
namespace Go.Q
theorem S_beq' (a b : List UInt8) : ((⟨a.toArray⟩ : ByteArray).toList == (⟨b.toArray⟩ : ByteArray).toList) = decide (a = b) := by
  rw [bytes_toList, bytes_toList]
  by_cases h : a = b
  · subst h; simp
  · rw [decide_eq_false h]; simpa using h
theorem part1 {P : Program} {t : TypeId} {d : TypeDesc} (ht : P.underlying t = some d) (hd : aggB d = false) {xs : Array Value} {o : Nat} {v : Value} (hv : xs[o]? = some v) (w : World) : (part t xs o).run P w = .ok v w := by
  unfold part
  rw [Sem.run_bind, run_isAgg ht, hd]
  simp [hv]
theorem eqC_nil {P : Program} {d : Nat} {xs ys : Array Value} {w : World} : (Op.eqFields d xs ys []).run P w = .ok true w := rfl
theorem eqC_cons {P : Program} {d : Nat} {xs ys : Array Value} {f : Field} {fs : List Field} {a b : Value} {r r' : Bool} {w : World} {ft fo : Nat} (h : (f.type, f.offset, f.name == "_") = (ft, fo, false)) (ha : (part ft xs fo).run P w = .ok a w) (hb : (part ft ys fo).run P w = .ok b w)
    (he : (Op.equalIn d ft a b).run P w = .ok r w) (hk : (Op.eqFields d xs ys fs).run P w = .ok r' w) : (Op.eqFields d xs ys (f :: fs)).run P w = .ok (r && r') w := by
  simp only [Prod.mk.injEq] at h
  obtain ⟨rfl, rfl, hn⟩ := h
  have hn' : f.name ≠ "_" := by simpa using hn
  rw [Op.eqFields, if_pos hn']
  simp only [Sem.run_bind, ha, hb, he, Result.andThen_ok]
  cases r
  · simp
  · simpa using hk
theorem eqC_fields {P : Program} {d : Nat} {xs ys : Array Value} {r : Bool} {w : World} {l : List Field} {m : List (Nat × Nat × Bool)} (hf : l.map (fun f => (f.type, f.offset, f.name == "_")) = m) (h : ∀ l : List Field, l.map (fun f => (f.type, f.offset, f.name == "_")) = m → (Op.eqFields d xs ys l).run P w = .ok r w) :
    (Op.eqFields d xs ys l).run P w = .ok r w := h l hf
theorem eq_str {P : Program} {t : TypeId} (h : P.underlying t = some .string) (d : Nat) (a b : List UInt8) (w : World) : (Op.equalIn (d + 1) t (S a) (S b)).run P w = .ok (decide (a = b)) w := by
  unfold S; rw [run_equalIn_string w d t _ _ h, S_beq']
end Go.Q
namespace Go.Q
open Go.Proofs
set_option linter.unusedVariables false
set_option maxRecDepth 100000
def eqv70 (a0 : List UInt8) (a1 : List UInt8) (b0 : List UInt8) (b1 : List UInt8) : Bool := (decide (a0 = b0) && (decide (a1 = b1) && true))
theorem eqT70 (d : Nat) (w : World) (a0 : List UInt8) (a1 : List UInt8) (b0 : List UInt8) (b1 : List UInt8) : (Op.equalIn (d + 2) 70 (.agg #[(S a0), (S a1)]) (.agg #[(S b0), (S b1)])).run Tryz.prog w = .ok (eqv70 a0 a1 b0 b1) w := by
  rw [run_equalIn_struct w _ 70 _ _ (by kernel_rfl) (by kernel_rfl)]
  refine eqC_fields (m := [(9, 0, false), (9, 1, false)]) (by kernel_rfl) fun l hl => ?_
  obtain ⟨f0, l0, rfl, h0, hl⟩ := List.map_eq_cons_iff.1 hl
  refine eqC_cons (ft := 9) (fo := 0) (a := (S a0)) (b := (S b0)) h0 (part1 Tryz.underlying9 rfl (by kernel_rfl) w) (part1 Tryz.underlying9 rfl (by kernel_rfl) w) (eq_str Tryz.underlying9 (d + 0) _ _ w) ?_
  obtain ⟨f1, l1, rfl, h1, hl⟩ := List.map_eq_cons_iff.1 hl
  refine eqC_cons (ft := 9) (fo := 1) (a := (S a1)) (b := (S b1)) h1 (part1 Tryz.underlying9 rfl (by kernel_rfl) w) (part1 Tryz.underlying9 rfl (by kernel_rfl) w) (eq_str Tryz.underlying9 (d + 0) _ _ w) ?_
  obtain rfl := List.map_eq_nil_iff.1 hl
  exact eqC_nil
theorem o_neq70 {ρ : Operand → Value} {w : World} {K : Value → World → Prop} {dst : Option Tmp} {T : TypeId} {pos : String} {after : Array Edge} {g : Option (Nat × Bool)} {u : TypeId} {x y : Operand} (a0 : List UInt8) (a1 : List UInt8) (b0 : List UInt8) (b1 : List UInt8) (hx : ρ x = .agg #[(S a0), (S a1)]) (hy : ρ y = .agg #[(S b0), (S b1)]) (h : K (.bool (!(eqv70 a0 a1 b0 b1))) w) :
    OK Tryz.prog ⟨dst, .binOp .neq 70 x y u, T, pos, after, g⟩ ρ w K :=
  o_nex hx hy (run_eqGuard_agg w _ _ _ _ _ _ (by kernel_rfl)) rfl (eqT70 (9998) w a0 a1 b0 b1) h
theorem eqv70_iff (a0 : List UInt8) (a1 : List UInt8) (b0 : List UInt8) (b1 : List UInt8) : eqv70 a0 a1 b0 b1 = true ↔ a0 = b0 ∧ a1 = b1 := by
  unfold eqv70; simp
end Go.Q
namespace Go.Q
open Go.Proofs
set_option linter.unusedVariables false
set_option maxRecDepth 100000
attribute [local irreducible] wpList OK Code.wp
set_option maxHeartbeats 4000000 in
theorem rkey_c {E w : World} {R : List Hp} {k : Bs}  (hH : Has E w [R]) :
    Calls Tryz.prog 55 #[(S k)] w fun e w' => e = .returned (.bool (keyR k)) ∧ Has E w' [R] := by
  refine c_enter (args := [(S k)]) Tryz.func55 rfl Tryz.ntmps55 (by simp) ?_
  refine wp_seq_k fun K1 hK1 => ?_
  refine c_region ?_
  refine s_op (o_assign (v := (.bool false)) rfl ?_)
  refine s_nil ?_
  refine t_norm (hK1 _ _ ?_)
  refine wp_seq_k fun K2 hK2 => ?_
  refine c_region ?_
  refine s_op (o_move (v := (S k)) rfl ?_)
  refine s_op (o_slen Tryz.underlying9 rfl ?_)
  refine s_op (o_geq (a := (k.length : Int)) (b := 1) rfl rfl ?_)
  refine s_op (o_move (v := (.bool (decide (1 ≤ (k.length : Int))))) rfl ?_)
  by_cases h3 : 1 ≤ (k.length : Int)
  · -- 1 ≤ (k.length : Int)
    refine s_on 6 rfl (congrArg Value.bool (decide_eq_true h3)) (o_move (v := (S k)) rfl ?_)
    refine s_on 6 rfl (congrArg Value.bool (decide_eq_true h3)) (o_slen Tryz.underlying9 rfl ?_)
    refine s_on 6 rfl (congrArg Value.bool (decide_eq_true h3)) (o_leq (a := (k.length : Int)) (b := 8) rfl rfl ?_)
    refine s_op (o_pick_t (u := (.bool (decide ((k.length : Int) ≤ 8)))) ((rfl : _ = _).trans (congrArg Value.bool (decide_eq_true h3))) rfl ?_)
    refine s_op (o_assign (v := (.bool (decide ((k.length : Int) ≤ 8)))) rfl ?_)
    refine s_nil ?_
    refine t_norm (hK2 _ _ ?_)
    refine wp_ret ?_
    refine c_ret1 Tryz.results55  (v := (.bool (decide ((k.length : Int) ≤ 8)))) rfl ?_
    have q4 : (keyR k) = decide ((k.length : Int) ≤ 8) := by exact key_eq2 (by omega)
    exact ⟨by rw [q4], hH⟩
  · -- not: 1 ≤ (k.length : Int)
    refine s_off (b' := false) 6 rfl (congrArg Value.bool (decide_eq_false h3)) rfl ?_
    refine s_off (b' := false) 6 rfl (congrArg Value.bool (decide_eq_false h3)) rfl ?_
    refine s_off (b' := false) 6 rfl (congrArg Value.bool (decide_eq_false h3)) rfl ?_
    refine s_op (o_pick_f (u := (.bool false)) ((rfl : _ = _).trans (congrArg Value.bool (decide_eq_false h3))) rfl ?_)
    refine s_op (o_assign (v := (.bool false)) rfl ?_)
    refine s_nil ?_
    refine t_norm (hK2 _ _ ?_)
    refine wp_ret ?_
    refine c_ret1 Tryz.results55  (v := (.bool false)) rfl ?_
    have q5 : (keyR k) = false := by exact key_eq0 (by omega)
    exact ⟨by rw [q5], hH⟩
set_option maxHeartbeats 4000000 in
theorem r11right_c {E w : World} {R : List Hp} {no : Int} {gsn : Int} {v_l : Value} {l : List Cel}  (hH : Has E w [R]) (h_l : Sl R 2 v_l l.length (l.flatMap ceC)) :
    Calls Tryz.prog 17 #[(.agg #[(.int .i64 no), (.int .i64 gsn), v_l])] w fun e w' => e = .returned (.bool (pageR no gsn l)) ∧ Has E w' [R] := by
  have hn_ := h_l.le
  refine c_enter (args := [(.agg #[(.int .i64 no), (.int .i64 gsn), v_l])]) Tryz.func17 rfl Tryz.ntmps17 (by simp) ?_
  refine wp_seq_k fun K1 hK1 => ?_
  refine c_region ?_
  refine s_op (o_box (cs := #[(.int .i64 no), (.int .i64 gsn), v_l]) rfl rfl hH fun b2 w3 hH4 => ?_)
  refine s_op (o_assign (v := (.bool false)) rfl ?_)
  refine s_nil ?_
  refine t_norm (hK1 _ _ ?_)
  refine wp_seq_k fun K5 hK5 => ?_
  refine wp_seq_k fun K6 hK6 => ?_
  refine c_region ?_
  refine s_op (o_fieldAddr (k := 0) (fun _ => by kernel_rfl) rfl ?_)
  refine s_op (o_load1 (v := (.int .i64 no)) Tryz.underlying3 rfl rfl hH4 (seg_sub 0 rfl) (CellsAt.one rfl) ?_)
  refine s_op (o_lss (a := no) (b := 0) rfl rfl ?_)
  refine s_op (o_move (v := (.bool (decide (no < 0)))) rfl ?_)
  by_cases h7 : no < 0
  · -- no < 0
    refine s_off (b' := true) 7 rfl (congrArg Value.bool (decide_eq_true h7)) rfl ?_
    refine s_off (b' := true) 7 rfl (congrArg Value.bool (decide_eq_true h7)) rfl ?_
    refine s_off (b' := true) 7 rfl (congrArg Value.bool (decide_eq_true h7)) rfl ?_
    refine s_op (o_pick_t (u := (.bool true)) ((rfl : _ = _).trans (congrArg Value.bool (decide_eq_true h7))) rfl ?_)
    refine s_op (o_move (v := (.bool true)) rfl ?_)
    refine s_off (b' := true) 12 rfl rfl rfl ?_
    refine s_off (b' := true) 12 rfl rfl rfl ?_
    refine s_off (b' := true) 12 rfl rfl rfl ?_
    refine s_op (o_pick_t (u := (.bool true)) rfl rfl ?_)
    refine s_op (o_move (v := (.bool true)) rfl ?_)
    refine s_off (b' := true) 17 rfl rfl rfl ?_
    refine s_off (b' := true) 17 rfl rfl rfl ?_
    refine s_off (b' := true) 17 rfl rfl rfl ?_
    refine s_op (o_pick_t (u := (.bool true)) rfl rfl ?_)
    refine s_op (o_move (v := (.bool true)) rfl ?_)
    refine s_off (b' := true) 22 rfl rfl rfl ?_
    refine s_off (b' := true) 22 rfl rfl rfl ?_
    refine s_off (b' := true) 22 rfl rfl rfl ?_
    refine s_off (b' := true) 22 rfl rfl rfl ?_
    refine s_op (o_pick_t (u := (.bool true)) rfl rfl ?_)
    refine s_nil ?_
    refine t_norm (hK6 _ _ ?_)
    refine c_true rfl rfl ?_
    refine wp_seq_k fun K8 hK8 => ?_
    refine c_region ?_
    refine s_op (o_assign (v := (.bool false)) rfl ?_)
    refine s_nil ?_
    refine t_norm (hK8 _ _ ?_)
    refine wp_ret ?_
    refine t_ret (c_ret1 Tryz.results17  (v := (.bool false)) rfl ?_)
    have q9 : (pageR no gsn l) = false := by exact pageR_no (by first | exact .inl (by omega) | exact .inr (by omega))
    have hH10 : Has E w3 [R] := (hH4.front 1 rfl).first 1 rfl
    exact ⟨by rw [q9], hH10⟩
  · -- not: no < 0
    refine s_on 7 rfl (congrArg Value.bool (decide_eq_false h7)) (o_fieldAddr (k := 0) (fun _ => by kernel_rfl) rfl ?_)
    refine s_on 7 rfl (congrArg Value.bool (decide_eq_false h7)) (o_load1 (v := (.int .i64 no)) Tryz.underlying3 rfl rfl hH4 (seg_sub 0 rfl) (CellsAt.one rfl) ?_)
    refine s_on 7 rfl (congrArg Value.bool (decide_eq_false h7)) (o_gtr (a := no) (b := 63) rfl rfl ?_)
    refine s_op (o_pick_f (u := (.bool (decide (63 < no)))) ((rfl : _ = _).trans (congrArg Value.bool (decide_eq_false h7))) rfl ?_)
    refine s_op (o_move (v := (.bool (decide (63 < no)))) rfl ?_)
    by_cases h11 : 63 < no
    · -- 63 < no
      refine s_off (b' := true) 12 rfl (congrArg Value.bool (decide_eq_true h11)) rfl ?_
      refine s_off (b' := true) 12 rfl (congrArg Value.bool (decide_eq_true h11)) rfl ?_
      refine s_off (b' := true) 12 rfl (congrArg Value.bool (decide_eq_true h11)) rfl ?_
      refine s_op (o_pick_t (u := (.bool true)) ((rfl : _ = _).trans (congrArg Value.bool (decide_eq_true h11))) rfl ?_)
      refine s_op (o_move (v := (.bool true)) rfl ?_)
      refine s_off (b' := true) 17 rfl rfl rfl ?_
      refine s_off (b' := true) 17 rfl rfl rfl ?_
      refine s_off (b' := true) 17 rfl rfl rfl ?_
      refine s_op (o_pick_t (u := (.bool true)) rfl rfl ?_)
      refine s_op (o_move (v := (.bool true)) rfl ?_)
      refine s_off (b' := true) 22 rfl rfl rfl ?_
      refine s_off (b' := true) 22 rfl rfl rfl ?_
      refine s_off (b' := true) 22 rfl rfl rfl ?_
      refine s_off (b' := true) 22 rfl rfl rfl ?_
      refine s_op (o_pick_t (u := (.bool true)) rfl rfl ?_)
      refine s_nil ?_
      refine t_norm (hK6 _ _ ?_)
      refine c_true rfl rfl ?_
      refine wp_seq_k fun K12 hK12 => ?_
      refine c_region ?_
      refine s_op (o_assign (v := (.bool false)) rfl ?_)
      refine s_nil ?_
      refine t_norm (hK12 _ _ ?_)
      refine wp_ret ?_
      refine t_ret (c_ret1 Tryz.results17  (v := (.bool false)) rfl ?_)
      have q13 : (pageR no gsn l) = false := by exact pageR_no (by first | exact .inl (by omega) | exact .inr (by omega))
      have hH14 : Has E w3 [R] := (hH4.front 1 rfl).first 1 rfl
      exact ⟨by rw [q13], hH14⟩
    · -- not: 63 < no
      refine s_on 12 rfl (congrArg Value.bool (decide_eq_false h11)) (o_fieldAddr (k := 1) (fun _ => by kernel_rfl) rfl ?_)
      refine s_on 12 rfl (congrArg Value.bool (decide_eq_false h11)) (o_load1 (v := (.int .i64 gsn)) Tryz.underlying3 rfl rfl hH4 (seg_sub 0 rfl) (CellsAt.one rfl) ?_)
      refine s_on 12 rfl (congrArg Value.bool (decide_eq_false h11)) (o_lss (a := gsn) (b := 0) rfl rfl ?_)
      refine s_op (o_pick_f (u := (.bool (decide (gsn < 0)))) ((rfl : _ = _).trans (congrArg Value.bool (decide_eq_false h11))) rfl ?_)
      refine s_op (o_move (v := (.bool (decide (gsn < 0)))) rfl ?_)
      by_cases h15 : gsn < 0
      · -- gsn < 0
        refine s_off (b' := true) 17 rfl (congrArg Value.bool (decide_eq_true h15)) rfl ?_
        refine s_off (b' := true) 17 rfl (congrArg Value.bool (decide_eq_true h15)) rfl ?_
        refine s_off (b' := true) 17 rfl (congrArg Value.bool (decide_eq_true h15)) rfl ?_
        refine s_op (o_pick_t (u := (.bool true)) ((rfl : _ = _).trans (congrArg Value.bool (decide_eq_true h15))) rfl ?_)
        refine s_op (o_move (v := (.bool true)) rfl ?_)
        refine s_off (b' := true) 22 rfl rfl rfl ?_
        refine s_off (b' := true) 22 rfl rfl rfl ?_
        refine s_off (b' := true) 22 rfl rfl rfl ?_
        refine s_off (b' := true) 22 rfl rfl rfl ?_
        refine s_op (o_pick_t (u := (.bool true)) rfl rfl ?_)
        refine s_nil ?_
        refine t_norm (hK6 _ _ ?_)
        refine c_true rfl rfl ?_
        refine wp_seq_k fun K16 hK16 => ?_
        refine c_region ?_
        refine s_op (o_assign (v := (.bool false)) rfl ?_)
        refine s_nil ?_
        refine t_norm (hK16 _ _ ?_)
        refine wp_ret ?_
        refine t_ret (c_ret1 Tryz.results17  (v := (.bool false)) rfl ?_)
        have q17 : (pageR no gsn l) = false := by exact pageR_no (by first | exact .inl (by omega) | exact .inr (by omega))
        have hH18 : Has E w3 [R] := (hH4.front 1 rfl).first 1 rfl
        exact ⟨by rw [q17], hH18⟩
      · -- not: gsn < 0
        refine s_on 17 rfl (congrArg Value.bool (decide_eq_false h15)) (o_fieldAddr (k := 1) (fun _ => by kernel_rfl) rfl ?_)
        refine s_on 17 rfl (congrArg Value.bool (decide_eq_false h15)) (o_load1 (v := (.int .i64 gsn)) Tryz.underlying3 rfl rfl hH4 (seg_sub 0 rfl) (CellsAt.one rfl) ?_)
        refine s_on 17 rfl (congrArg Value.bool (decide_eq_false h15)) (o_geq (a := gsn) (b := 4611686018427387904) rfl rfl ?_)
        refine s_op (o_pick_f (u := (.bool (decide (4611686018427387904 ≤ gsn)))) ((rfl : _ = _).trans (congrArg Value.bool (decide_eq_false h15))) rfl ?_)
        refine s_op (o_move (v := (.bool (decide (4611686018427387904 ≤ gsn)))) rfl ?_)
        by_cases h19 : 4611686018427387904 ≤ gsn
        · -- 4611686018427387904 ≤ gsn
          refine s_off (b' := true) 22 rfl (congrArg Value.bool (decide_eq_true h19)) rfl ?_
          refine s_off (b' := true) 22 rfl (congrArg Value.bool (decide_eq_true h19)) rfl ?_
          refine s_off (b' := true) 22 rfl (congrArg Value.bool (decide_eq_true h19)) rfl ?_
          refine s_off (b' := true) 22 rfl (congrArg Value.bool (decide_eq_true h19)) rfl ?_
          refine s_op (o_pick_t (u := (.bool true)) ((rfl : _ = _).trans (congrArg Value.bool (decide_eq_true h19))) rfl ?_)
          refine s_nil ?_
          refine t_norm (hK6 _ _ ?_)
          refine c_true rfl rfl ?_
          refine wp_seq_k fun K20 hK20 => ?_
          refine c_region ?_
          refine s_op (o_assign (v := (.bool false)) rfl ?_)
          refine s_nil ?_
          refine t_norm (hK20 _ _ ?_)
          refine wp_ret ?_
          refine t_ret (c_ret1 Tryz.results17  (v := (.bool false)) rfl ?_)
          have q21 : (pageR no gsn l) = false := by exact pageR_no (by first | exact .inl (by omega) | exact .inr (by omega))
          have hH22 : Has E w3 [R] := (hH4.front 1 rfl).first 1 rfl
          exact ⟨by rw [q21], hH22⟩
        · -- not: 4611686018427387904 ≤ gsn
          refine s_on 22 rfl (congrArg Value.bool (decide_eq_false h19)) (o_fieldAddr (k := 2) (fun _ => by kernel_rfl) rfl ?_)
          refine s_on 22 rfl (congrArg Value.bool (decide_eq_false h19)) (o_load1 (v := v_l) Tryz.underlying34 rfl rfl hH4 (seg_sub 0 rfl) (CellsAt.one rfl) ?_)
          refine s_on 22 rfl (congrArg Value.bool (decide_eq_false h19)) (o_lenS Tryz.underlying34 rfl h_l ?_)
          refine s_on 22 rfl (congrArg Value.bool (decide_eq_false h19)) (o_gtr (a := ((l.length : Nat) : Int)) (b := 8) rfl rfl ?_)
          refine s_op (o_pick_f (u := (.bool (decide (8 < ((l.length : Nat) : Int))))) ((rfl : _ = _).trans (congrArg Value.bool (decide_eq_false h19))) rfl ?_)
          refine s_nil ?_
          refine t_norm (hK6 _ _ ?_)
          refine c_cond rfl (fun h23 => ?_) (fun h23 => ?_)
          · -- 8 < ((l.length : Nat) : Int)
            refine wp_seq_k fun K24 hK24 => ?_
            refine c_region ?_
            refine s_op (o_assign (v := (.bool false)) rfl ?_)
            refine s_nil ?_
            refine t_norm (hK24 _ _ ?_)
            refine wp_ret ?_
            refine t_ret (c_ret1 Tryz.results17  (v := (.bool false)) rfl ?_)
            have q25 : (pageR no gsn l) = false := by exact pageR_no (by first | exact .inl (by omega) | exact .inr (by omega))
            have hH26 : Has E w3 [R] := (hH4.front 1 rfl).first 1 rfl
            exact ⟨by rw [q25], hH26⟩
          · -- not: 8 < ((l.length : Nat) : Int)
            refine wp_skip ?_
            refine t_norm (hK5 _ _ ?_)
            refine wp_seq_k fun K27 hK27 => ?_
            refine wp_seq_k fun K28 hK28 => ?_
            refine c_region ?_
            refine s_op (o_assign (v := (.int .i64 0)) rfl ?_)
            refine s_nil ?_
            refine t_norm (hK28 _ _ ?_)
            refine wp_block ?_
            let I30 : Nat → (Nat → Value) → World → Prop := fun n__ r__ w__ => ∃ (k : Nat), n__ = l.length - k ∧ Has E w__ [[Hp.one b2 (.cells #[(.int .i64 no), (.int .i64 gsn), v_l] 36 (0, 0))], R] ∧ (k ≤ l.length) ∧ ((l.take k).all celOk = true) ∧ (Rises (l.take k)) ∧ r__ 0 = (.agg #[(.int .i64 no), (.int .i64 gsn), v_l]) ∧ r__ 1 = (.pointer (some ⟨b2, 0, none⟩)) ∧ r__ 3 = (.int .i64 (k : Int)) ∧ r__ 27 = (.bool (decide (8 < ((l.length : Nat) : Int))))
            refine c_loop I30 _ ⟨0, rfl, hH4, Nat.zero_le _, rfl, List.Pairwise.nil, rfl, rfl, rfl, rfl⟩ ?_
            rintro n_ r33 w31 ⟨k, rfl, hH32, hk, ha, hr, e29_0, e29_1, e29_3, e29_27⟩
            refine wp_seq_k fun K34 hK34 => ?_
            refine wp_seq_k fun K35 hK35 => ?_
            refine c_region ?_
            refine s_op (o_move (v := (.int .i64 (k : Int))) e29_3 ?_)
            refine s_op (o_fieldAddr (k := 2) (fun _ => by kernel_rfl) e29_1 ?_)
            refine s_op (o_load1 (v := v_l) Tryz.underlying34 rfl rfl hH32 (seg_sub 0 rfl) (CellsAt.one rfl) ?_)
            refine s_op (o_lenS Tryz.underlying34 rfl h_l ?_)
            refine s_op (o_lss (a := (k : Int)) (b := ((l.length : Nat) : Int)) rfl rfl ?_)
            refine s_nil ?_
            refine t_norm (hK35 _ _ ?_)
            refine c_cond rfl (fun h36 => ?_) (fun h36 => ?_)
            · -- (k : Int) < ((l.length : Nat) : Int)
              refine wp_skip ?_
              refine t_norm (hK34 _ _ ?_)
              refine wp_seq_k fun K37 hK37 => ?_
              refine wp_block ?_
              refine wp_seq_k fun K38 hK38 => ?_
              refine Rest.region mixed (by kernel_rfl) ?_
              have hH39 : Has E { w31 with drawn := w31.drawn + 1 } [[Hp.one b2 (.cells #[(.int .i64 no), (.int .i64 gsn), v_l] 36 (0, 0))], R] := Has0.drew hH32 _
              refine Rest.phaseA (fun w_ => Has E w_ [[Hp.one b2 (.cells #[(.int .i64 no), (.int .i64 gsn), v_l] 36 (0, 0))]]) 0 3 3 rfl (by decide) (by kernel_rfl) ?_
              refine a_op 0 rfl (by kernel_rfl) (fun w_ h_ => o_fieldAddr (k := 2) (fun _ => by kernel_rfl) e29_1 ⟨rfl, rfl⟩) ?_
              refine a_op 1 rfl (by kernel_rfl) (fun w_ h_ => o_load1 (v := v_l) Tryz.underlying34 rfl rfl h_ (seg_sub 0 rfl) (CellsAt.one rfl) ⟨rfl, rfl⟩) ?_
              refine a_op 2 rfl (by kernel_rfl) (fun w_ h_ => o_move (v := (.int .i64 (k : Int))) e29_3 ⟨rfl, rfl⟩) ?_
              have hH40 : Has E { w31 with drawn := w31.drawn + 1 } [[Hp.one b2 (.cells #[(.int .i64 no), (.int .i64 gsn), v_l] 36 (0, 0))]] := hH39.first 1 rfl
              refine a_done (by kernel_rfl) hH40 ?_
              obtain ⟨x44, hx45⟩ : ∃ x_, l[((k : Int)).toNat]? = some x_ := get_some (by omega)
              refine r_op 3 rfl (by kernel_rfl) (o_indexF ceC_len Tryz.underlying34 ti70 rfl h_l rfl rfl (by omega) hx45 fun b41 o42 hc43 => ?_)
              refine r_op 4 rfl (by kernel_rfl) (o_fieldAddr (k := o42) (fun _ => by kernel_rfl) rfl ?_)
              refine r_op 5 rfl (by kernel_rfl) (o_load1 (v := (S x44.1)) Tryz.underlying9 rfl rfl hH39 (seg_sub 1 rfl) (CellsAt.field (k := 0) (ds := [(S x44.1)]) hc43 rfl) ?_)
              refine r_op 6 rfl (by kernel_rfl) (o_callf (vs := #[(S x44.1)]) ca55 rfl (args1 rfl) (rkey_c (k := x44.1) hH39.all ) ?_)
              rintro _ w48 ⟨rfl, hX46⟩
              refine ⟨_, rfl, ?_⟩
              have hH47 := hX46.of_all
              refine r_op 7 rfl (by kernel_rfl) (o_not rfl ?_)
              refine r_op 8 rfl (by kernel_rfl) (o_move (v := (.bool (!(keyR x44.1)))) rfl ?_)
              refine Rest.phaseA (fun w_ => Has E w_ [[Hp.one b2 (.cells #[(.int .i64 no), (.int .i64 gsn), v_l] 36 (0, 0))]]) 9 12 3 rfl (by decide) (by kernel_rfl) ?_
              rcases Bool.eq_false_or_eq_true (!(keyR x44.1)) with h49 | h49
              · -- !(keyR x44.1)
                refine a_off (b' := true) 9 rfl (by kernel_rfl) 43 rfl (congrArg Value.bool h49) rfl ?_
                refine a_off (b' := true) 10 rfl (by kernel_rfl) 43 rfl (congrArg Value.bool h49) rfl ?_
                refine a_off (b' := true) 11 rfl (by kernel_rfl) 43 rfl (congrArg Value.bool h49) rfl ?_
                have hH50 : Has E w48 [[Hp.one b2 (.cells #[(.int .i64 no), (.int .i64 gsn), v_l] 36 (0, 0))]] := hH47.first 1 rfl
                refine a_done (by kernel_rfl) hH50 ?_
                refine r_off (b' := true) 12 rfl (by kernel_rfl) 43 rfl (congrArg Value.bool h49) rfl ?_
                refine r_off (b' := true) 13 rfl (by kernel_rfl) 43 rfl (congrArg Value.bool h49) rfl ?_
                refine r_off (b' := true) 14 rfl (by kernel_rfl) 43 rfl (congrArg Value.bool h49) rfl ?_
                refine r_off (b' := true) 15 rfl (by kernel_rfl) 43 rfl (congrArg Value.bool h49) rfl ?_
                refine r_off (b' := true) 16 rfl (by kernel_rfl) 43 rfl (congrArg Value.bool h49) rfl ?_
                refine r_op 17 rfl (by kernel_rfl) (o_pick_t (u := (.bool true)) ((rfl : _ = _).trans (congrArg Value.bool h49)) rfl ?_)
                refine r_op 18 rfl (by kernel_rfl) (o_move (v := (.bool true)) rfl ?_)
                refine r_off (b' := true) 19 rfl (by kernel_rfl) 53 rfl rfl rfl ?_
                refine r_off (b' := true) 20 rfl (by kernel_rfl) 53 rfl rfl rfl ?_
                refine r_off (b' := true) 21 rfl (by kernel_rfl) 53 rfl rfl rfl ?_
                refine Rest.phaseA (fun w_ => Has E w_ []) 22 35 13 rfl (by decide) (by kernel_rfl) ?_
                refine a_offu 22 rfl (by kernel_rfl) 56 rfl rfl ?_
                refine a_offu 23 rfl (by kernel_rfl) 56 rfl rfl ?_
                refine a_offu 24 rfl (by kernel_rfl) 56 rfl rfl ?_
                refine a_offu 25 rfl (by kernel_rfl) 56 rfl rfl ?_
                refine a_offu 26 rfl (by kernel_rfl) 56 rfl rfl ?_
                refine a_offu 27 rfl (by kernel_rfl) 56 rfl rfl ?_
                refine a_offu 28 rfl (by kernel_rfl) 56 rfl rfl ?_
                refine a_offu 29 rfl (by kernel_rfl) 56 rfl rfl ?_
                refine a_offu 30 rfl (by kernel_rfl) 56 rfl rfl ?_
                refine a_offu 31 rfl (by kernel_rfl) 56 rfl rfl ?_
                refine a_offu 32 rfl (by kernel_rfl) 56 rfl rfl ?_
                refine a_offu 33 rfl (by kernel_rfl) 56 rfl rfl ?_
                refine a_offu 34 rfl (by kernel_rfl) 56 rfl rfl ?_
                have hH51 : Has E w48 [] := hH47.first 0 rfl
                refine a_done (by kernel_rfl) hH51 ?_
                refine r_offu 35 rfl (by kernel_rfl) 56 rfl rfl ?_
                refine r_off (b' := true) 36 rfl (by kernel_rfl) 53 rfl rfl rfl ?_
                refine r_op 37 rfl (by kernel_rfl) (o_pick_t (u := (.bool true)) rfl rfl ?_)
                refine Rest.done (by kernel_rfl) ?_
                refine t_norm (hK38 _ _ ?_)
                refine c_true rfl rfl ?_
                refine wp_seq_k fun K52 hK52 => ?_
                refine c_region ?_
                refine s_op (o_assign (v := (.bool false)) rfl ?_)
                refine s_nil ?_
                refine t_norm (hK52 _ _ ?_)
                refine wp_ret ?_
                refine b_ret (t_ret (t_ret (b_ret (t_ret (c_ret1 Tryz.results17  (v := (.bool false)) rfl ?_)))))
                have q53 : (pageR no gsn l) = false := by exact pageR_nc (cells_no1 hx45 (by simp only [celOk]; rw [show keyR x44.1 = false by simpa using h49]; rfl))
                have hH54 : Has E w48 [R] := (hH47.front 1 rfl).first 1 rfl
                exact ⟨by rw [q53], hH54⟩
              · -- not: !(keyR x44.1)
                refine a_on 9 rfl (by kernel_rfl) 43 rfl (congrArg Value.bool h49) (fun w_ h_ => o_fieldAddr (k := 2) (fun _ => by kernel_rfl) e29_1 ⟨rfl, rfl⟩) ?_
                refine a_on 10 rfl (by kernel_rfl) 43 rfl (congrArg Value.bool h49) (fun w_ h_ => o_load1 (v := v_l) Tryz.underlying34 rfl rfl h_ (seg_sub 0 rfl) (CellsAt.one rfl) ⟨rfl, rfl⟩) ?_
                refine a_on 11 rfl (by kernel_rfl) 43 rfl (congrArg Value.bool h49) (fun w_ h_ => o_move (v := (.int .i64 (k : Int))) e29_3 ⟨rfl, rfl⟩) ?_
                have hH55 : Has E w48 [[Hp.one b2 (.cells #[(.int .i64 no), (.int .i64 gsn), v_l] 36 (0, 0))]] := hH47.first 1 rfl
                refine a_done (by kernel_rfl) hH55 ?_
                refine r_on 12 rfl (by kernel_rfl) 43 rfl (congrArg Value.bool h49) (o_indexF ceC_len Tryz.underlying34 ti70 rfl h_l rfl rfl (by omega) hx45 fun b56 o57 hc58 => ?_)
                refine r_on 13 rfl (by kernel_rfl) 43 rfl (congrArg Value.bool h49) (o_fieldAddr (k := o57 + 1) (fun _ => by kernel_rfl) rfl ?_)
                refine r_on 14 rfl (by kernel_rfl) 43 rfl (congrArg Value.bool h49) (o_load1 (v := (S x44.2)) Tryz.underlying9 rfl rfl hH47 (seg_sub 1 rfl) (CellsAt.field (k := 1) (ds := [(S x44.2)]) hc58 rfl) ?_)
                refine r_on 15 rfl (by kernel_rfl) 43 rfl (congrArg Value.bool h49) (o_slen Tryz.underlying9 rfl ?_)
                refine r_on 16 rfl (by kernel_rfl) 43 rfl (congrArg Value.bool h49) (o_gtr (a := (x44.2.length : Int)) (b := 16) rfl rfl ?_)
                refine r_op 17 rfl (by kernel_rfl) (o_pick_f (u := (.bool (decide (16 < (x44.2.length : Int))))) ((rfl : _ = _).trans (congrArg Value.bool h49)) rfl ?_)
                refine r_op 18 rfl (by kernel_rfl) (o_move (v := (.bool (decide (16 < (x44.2.length : Int))))) rfl ?_)
                by_cases h59 : 16 < (x44.2.length : Int)
                · -- 16 < (x44.2.length : Int)
                  refine r_off (b' := true) 19 rfl (by kernel_rfl) 53 rfl (congrArg Value.bool (decide_eq_true h59)) rfl ?_
                  refine r_off (b' := true) 20 rfl (by kernel_rfl) 53 rfl (congrArg Value.bool (decide_eq_true h59)) rfl ?_
                  refine r_off (b' := true) 21 rfl (by kernel_rfl) 53 rfl (congrArg Value.bool (decide_eq_true h59)) rfl ?_
                  refine Rest.phaseA (fun w_ => Has E w_ []) 22 35 13 rfl (by decide) (by kernel_rfl) ?_
                  refine a_offu 22 rfl (by kernel_rfl) 56 rfl rfl ?_
                  refine a_offu 23 rfl (by kernel_rfl) 56 rfl rfl ?_
                  refine a_offu 24 rfl (by kernel_rfl) 56 rfl rfl ?_
                  refine a_offu 25 rfl (by kernel_rfl) 56 rfl rfl ?_
                  refine a_offu 26 rfl (by kernel_rfl) 56 rfl rfl ?_
                  refine a_offu 27 rfl (by kernel_rfl) 56 rfl rfl ?_
                  refine a_offu 28 rfl (by kernel_rfl) 56 rfl rfl ?_
                  refine a_offu 29 rfl (by kernel_rfl) 56 rfl rfl ?_
                  refine a_offu 30 rfl (by kernel_rfl) 56 rfl rfl ?_
                  refine a_offu 31 rfl (by kernel_rfl) 56 rfl rfl ?_
                  refine a_offu 32 rfl (by kernel_rfl) 56 rfl rfl ?_
                  refine a_offu 33 rfl (by kernel_rfl) 56 rfl rfl ?_
                  refine a_offu 34 rfl (by kernel_rfl) 56 rfl rfl ?_
                  have hH60 : Has E w48 [] := hH47.first 0 rfl
                  refine a_done (by kernel_rfl) hH60 ?_
                  refine r_offu 35 rfl (by kernel_rfl) 56 rfl rfl ?_
                  refine r_off (b' := true) 36 rfl (by kernel_rfl) 53 rfl (congrArg Value.bool (decide_eq_true h59)) rfl ?_
                  refine r_op 37 rfl (by kernel_rfl) (o_pick_t (u := (.bool true)) ((rfl : _ = _).trans (congrArg Value.bool (decide_eq_true h59))) rfl ?_)
                  refine Rest.done (by kernel_rfl) ?_
                  refine t_norm (hK38 _ _ ?_)
                  refine c_true rfl rfl ?_
                  refine wp_seq_k fun K61 hK61 => ?_
                  refine c_region ?_
                  refine s_op (o_assign (v := (.bool false)) rfl ?_)
                  refine s_nil ?_
                  refine t_norm (hK61 _ _ ?_)
                  refine wp_ret ?_
                  refine b_ret (t_ret (t_ret (b_ret (t_ret (c_ret1 Tryz.results17  (v := (.bool false)) rfl ?_)))))
                  have q62 : (pageR no gsn l) = false := by exact pageR_nc (cells_no1 hx45 (by simp only [celOk]; rw [show valR (true, x44.2) = false by unfold valR; simp; omega]; simp))
                  have hH63 : Has E w48 [R] := (hH47.front 1 rfl).first 1 rfl
                  exact ⟨by rw [q62], hH63⟩
                · -- not: 16 < (x44.2.length : Int)
                  refine r_on 19 rfl (by kernel_rfl) 53 rfl (congrArg Value.bool (decide_eq_false h59)) (o_move (v := (.int .i64 (k : Int))) e29_3 ?_)
                  refine r_on 20 rfl (by kernel_rfl) 53 rfl (congrArg Value.bool (decide_eq_false h59)) (o_gtr (a := (k : Int)) (b := 0) rfl rfl ?_)
                  refine r_on 21 rfl (by kernel_rfl) 53 rfl (congrArg Value.bool (decide_eq_false h59)) (o_move (v := (.bool (decide (0 < (k : Int))))) rfl ?_)
                  refine Rest.phaseA (fun w_ => Has E w_ [[Hp.one b2 (.cells #[(.int .i64 no), (.int .i64 gsn), v_l] 36 (0, 0))], R]) 22 35 13 rfl (by decide) (by kernel_rfl) ?_
                  by_cases h64 : 0 < (k : Int)
                  · -- 0 < (k : Int)
                    refine a_on 22 rfl (by kernel_rfl) 56 rfl (congrArg Value.bool (decide_eq_true h64)) (fun w_ h_ => o_fieldAddr (k := 2) (fun _ => by kernel_rfl) e29_1 ⟨rfl, rfl⟩) ?_
                    refine a_on 23 rfl (by kernel_rfl) 56 rfl (congrArg Value.bool (decide_eq_true h64)) (fun w_ h_ => o_load1 (v := v_l) Tryz.underlying34 rfl rfl h_ (seg_sub 0 rfl) (CellsAt.one rfl) ⟨rfl, rfl⟩) ?_
                    refine a_on 24 rfl (by kernel_rfl) 56 rfl (congrArg Value.bool (decide_eq_true h64)) (fun w_ h_ => o_move (v := (.int .i64 (k : Int))) e29_3 ⟨rfl, rfl⟩) ?_
                    refine a_on 25 rfl (by kernel_rfl) 56 rfl (congrArg Value.bool (decide_eq_true h64)) (fun w_ h_ => o_sub (a := (k : Int)) (b := 1) rfl rfl (w64 (by omega) (by omega)) ⟨rfl, rfl⟩) ?_
                    obtain ⟨x68, hx69⟩ : ∃ x_, l[((k : Int) - 1).toNat]? = some x_ := get_some (by omega)
                    obtain ⟨b65, o66, hc67, ho70⟩ := ix_exF ceC_len Tryz.underlying34 ti70 h_l (by omega) hx69
                    refine a_on 26 rfl (by kernel_rfl) 56 rfl (congrArg Value.bool (decide_eq_true h64)) (fun w_ h_ => ho70 rfl rfl ⟨rfl, rfl⟩) ?_
                    refine a_on 27 rfl (by kernel_rfl) 56 rfl (congrArg Value.bool (decide_eq_true h64)) (fun w_ h_ => o_fieldAddr (k := o66) (fun _ => by kernel_rfl) rfl ⟨rfl, rfl⟩) ?_
                    refine a_on 28 rfl (by kernel_rfl) 56 rfl (congrArg Value.bool (decide_eq_true h64)) (fun w_ h_ => o_load1 (v := (S x68.1)) Tryz.underlying9 rfl rfl h_ (seg_sub 1 rfl) (CellsAt.field (k := 0) (ds := [(S x68.1)]) hc67 rfl) ⟨rfl, rfl⟩) ?_
                    refine a_on 29 rfl (by kernel_rfl) 56 rfl (congrArg Value.bool (decide_eq_true h64)) (fun w_ h_ => o_fieldAddr (k := 2) (fun _ => by kernel_rfl) e29_1 ⟨rfl, rfl⟩) ?_
                    refine a_on 30 rfl (by kernel_rfl) 56 rfl (congrArg Value.bool (decide_eq_true h64)) (fun w_ h_ => o_load1 (v := v_l) Tryz.underlying34 rfl rfl h_ (seg_sub 0 rfl) (CellsAt.one rfl) ⟨rfl, rfl⟩) ?_
                    refine a_on 31 rfl (by kernel_rfl) 56 rfl (congrArg Value.bool (decide_eq_true h64)) (fun w_ h_ => o_move (v := (.int .i64 (k : Int))) e29_3 ⟨rfl, rfl⟩) ?_
                    obtain ⟨b71, o72, hc73, ho74⟩ := ix_exF ceC_len Tryz.underlying34 ti70 h_l (by omega) hx45
                    refine a_on 32 rfl (by kernel_rfl) 56 rfl (congrArg Value.bool (decide_eq_true h64)) (fun w_ h_ => ho74 rfl rfl ⟨rfl, rfl⟩) ?_
                    refine a_on 33 rfl (by kernel_rfl) 56 rfl (congrArg Value.bool (decide_eq_true h64)) (fun w_ h_ => o_fieldAddr (k := o72) (fun _ => by kernel_rfl) rfl ⟨rfl, rfl⟩) ?_
                    refine a_on 34 rfl (by kernel_rfl) 56 rfl (congrArg Value.bool (decide_eq_true h64)) (fun w_ h_ => o_load1 (v := (S x44.1)) Tryz.underlying9 rfl rfl h_ (seg_sub 1 rfl) (CellsAt.field (k := 0) (ds := [(S x44.1)]) hc73 rfl) ⟨rfl, rfl⟩) ?_
                    refine a_done (by kernel_rfl) hH47 ?_
                    refine r_on 35 rfl (by kernel_rfl) 56 rfl (congrArg Value.bool (decide_eq_true h64)) (o_sgeP (a := x68.1) (b := x44.1) rfl rfl ?_)
                    refine r_on 36 rfl (by kernel_rfl) 53 rfl (congrArg Value.bool (decide_eq_false h59)) (o_pick_t (u := (.bool (decide (¬ (x68.1 < x44.1))))) ((rfl : _ = _).trans (congrArg Value.bool (decide_eq_true h64))) rfl ?_)
                    refine r_op 37 rfl (by kernel_rfl) (o_pick_f (u := (.bool (decide (¬ (x68.1 < x44.1))))) ((rfl : _ = _).trans (congrArg Value.bool (decide_eq_false h59))) rfl ?_)
                    refine Rest.done (by kernel_rfl) ?_
                    refine t_norm (hK38 _ _ ?_)
                    refine c_cond rfl (fun h75 => ?_) (fun h75 => ?_)
                    · -- ¬ (x68.1 < x44.1)
                      refine wp_seq_k fun K76 hK76 => ?_
                      refine c_region ?_
                      refine s_op (o_assign (v := (.bool false)) rfl ?_)
                      refine s_nil ?_
                      refine t_norm (hK76 _ _ ?_)
                      refine wp_ret ?_
                      refine b_ret (t_ret (t_ret (b_ret (t_ret (c_ret1 Tryz.results17  (v := (.bool false)) rfl ?_)))))
                      have q77 : (pageR no gsn l) = false := by exact pageR_nc (cells_no2 (k := k) (by omega) hx45 (by rw [show k - 1 = ((k : Int) - 1).toNat by omega]; exact hx69) h75)
                      have hH78 : Has E w48 [R] := (hH47.front 1 rfl).first 1 rfl
                      exact ⟨by rw [q77], hH78⟩
                    · -- not: ¬ (x68.1 < x44.1)
                      refine wp_skip ?_
                      refine b_norm ?_
                      refine t_norm (hK37 _ _ ?_)
                      refine c_region ?_
                      refine s_op (o_move (v := (.int .i64 (k : Int))) e29_3 ?_)
                      refine s_op (o_add (a := (k : Int)) (b := 1) rfl rfl (w64 (by omega) (by omega)) ?_)
                      refine s_op (o_assign (v := (.int .i64 ((k : Int) + 1))) rfl ?_)
                      refine s_nil ?_
                      refine t_norm ⟨l.length - (k + 1), _, rfl, ?_, ?_⟩
                      · omega
                      · exact ⟨(k + 1), rfl, hH47, (by omega), (all_next (show l[k]? = some _ from hx45) ha (by simp only [celOk, Bool.and_eq_true]; exact ⟨by simpa using h49, by unfold valR; simp; omega⟩)), (cells_next (show l[k]? = some _ from hx45) hr (fun p h0 hp => by (have e_ := hp.symm.trans (show l[k - 1]? = some _ from by rw [show k - 1 = ((k : Int) - 1).toNat by omega]; exact hx69); cases e_; exact Classical.not_not.1 h75))), e29_0, e29_1, rfl, e29_27⟩
                  · -- not: 0 < (k : Int)
                    refine a_off (b' := false) 22 rfl (by kernel_rfl) 56 rfl (congrArg Value.bool (decide_eq_false h64)) rfl ?_
                    refine a_off (b' := false) 23 rfl (by kernel_rfl) 56 rfl (congrArg Value.bool (decide_eq_false h64)) rfl ?_
                    refine a_off (b' := false) 24 rfl (by kernel_rfl) 56 rfl (congrArg Value.bool (decide_eq_false h64)) rfl ?_
                    refine a_off (b' := false) 25 rfl (by kernel_rfl) 56 rfl (congrArg Value.bool (decide_eq_false h64)) rfl ?_
                    refine a_off (b' := false) 26 rfl (by kernel_rfl) 56 rfl (congrArg Value.bool (decide_eq_false h64)) rfl ?_
                    refine a_off (b' := false) 27 rfl (by kernel_rfl) 56 rfl (congrArg Value.bool (decide_eq_false h64)) rfl ?_
                    refine a_off (b' := false) 28 rfl (by kernel_rfl) 56 rfl (congrArg Value.bool (decide_eq_false h64)) rfl ?_
                    refine a_off (b' := false) 29 rfl (by kernel_rfl) 56 rfl (congrArg Value.bool (decide_eq_false h64)) rfl ?_
                    refine a_off (b' := false) 30 rfl (by kernel_rfl) 56 rfl (congrArg Value.bool (decide_eq_false h64)) rfl ?_
                    refine a_off (b' := false) 31 rfl (by kernel_rfl) 56 rfl (congrArg Value.bool (decide_eq_false h64)) rfl ?_
                    refine a_off (b' := false) 32 rfl (by kernel_rfl) 56 rfl (congrArg Value.bool (decide_eq_false h64)) rfl ?_
                    refine a_off (b' := false) 33 rfl (by kernel_rfl) 56 rfl (congrArg Value.bool (decide_eq_false h64)) rfl ?_
                    refine a_off (b' := false) 34 rfl (by kernel_rfl) 56 rfl (congrArg Value.bool (decide_eq_false h64)) rfl ?_
                    refine a_done (by kernel_rfl) hH47 ?_
                    refine r_off (b' := false) 35 rfl (by kernel_rfl) 56 rfl (congrArg Value.bool (decide_eq_false h64)) rfl ?_
                    refine r_on 36 rfl (by kernel_rfl) 53 rfl (congrArg Value.bool (decide_eq_false h59)) (o_pick_f (u := (.bool false)) ((rfl : _ = _).trans (congrArg Value.bool (decide_eq_false h64))) rfl ?_)
                    refine r_op 37 rfl (by kernel_rfl) (o_pick_f (u := (.bool false)) ((rfl : _ = _).trans (congrArg Value.bool (decide_eq_false h59))) rfl ?_)
                    refine Rest.done (by kernel_rfl) ?_
                    refine t_norm (hK38 _ _ ?_)
                    refine c_false rfl rfl ?_
                    refine wp_skip ?_
                    refine b_norm ?_
                    refine t_norm (hK37 _ _ ?_)
                    refine c_region ?_
                    refine s_op (o_move (v := (.int .i64 (k : Int))) e29_3 ?_)
                    refine s_op (o_add (a := (k : Int)) (b := 1) rfl rfl (w64 (by omega) (by omega)) ?_)
                    refine s_op (o_assign (v := (.int .i64 ((k : Int) + 1))) rfl ?_)
                    refine s_nil ?_
                    refine t_norm ⟨l.length - (k + 1), _, rfl, ?_, ?_⟩
                    · omega
                    · exact ⟨(k + 1), rfl, hH47, (by omega), (all_next (show l[k]? = some _ from hx45) ha (by simp only [celOk, Bool.and_eq_true]; exact ⟨by simpa using h49, by unfold valR; simp; omega⟩)), (cells_next (show l[k]? = some _ from hx45) hr (fun p h0 _ => absurd h0 (by omega))), e29_0, e29_1, rfl, e29_27⟩
            · -- not: (k : Int) < ((l.length : Nat) : Int)
              refine wp_exit ?_
              refine t_exit (t_exit (x_in (?_)))
              refine t_norm (hK27 _ _ ?_)
              refine wp_seq_k fun K79 hK79 => ?_
              refine c_region ?_
              refine s_op (o_assign (v := (.bool true)) rfl ?_)
              refine s_nil ?_
              refine t_norm (hK79 _ _ ?_)
              refine wp_ret ?_
              refine c_ret1 Tryz.results17  (v := (.bool true)) rfl ?_
              have q80 : (pageR no gsn l) = true := by (have e_ : k = l.length := by omega); rw [e_, List.take_length] at ha hr; exact (pageR_iff.2 ⟨by omega, by rw [cells_end ha hr]; exact decide_eq_true (by omega)⟩)
              have hH81 : Has E w31 [R] := (hH32.front 1 rfl).first 1 rfl
              exact ⟨by rw [q80], hH81⟩
end Go.Q
namespace Go.Q
open Go.Proofs
set_option linter.unusedVariables false
set_option maxRecDepth 100000
attribute [local irreducible] wpList OK Code.wp
set_option maxHeartbeats 4000000 in
theorem r11read_c {E w : World} {R : List Hp} {s : Bs}  (hH : Has E w [R]) :
    Calls Tryz.prog 31 #[(S s)] w fun e w' => ∃ (v1' : Value) (s2' : List Hp), e = .returned (.tuple #[(.agg #[(.int .i64 ((readR s).2.1)), (.int .i64 ((readR s).2.2.1)), v1']), (.bool ((readR s).1))]) ∧ (Own 70 2 v1' ((readR s).2.2.2).length (((readR s).2.2.2).flatMap ceC) s2') ∧ Has E w' [s2', R] := by
  refine c_enter (args := [(S s)]) Tryz.func31 rfl Tryz.ntmps31 (by simp) ?_
  refine wp_seq_k fun K1 hK1 => ?_
  refine c_region ?_
  refine s_op (o_alloc (cs := #[(.int .i64 0), (.int .i64 0), (.slice none 0 0)]) ti36 rfl hH fun b2 w3 hH4 => ?_)
  refine s_op (o_assign (v := (.bool false)) rfl ?_)
  refine s_nil ?_
  refine t_norm (hK1 _ _ ?_)
  refine wp_seq_k fun K5 hK5 => ?_
  refine wp_seq_k fun K6 hK6 => ?_
  refine c_region ?_
  refine s_op (o_move (v := (S s)) rfl ?_)
  refine s_op (o_slen Tryz.underlying9 rfl ?_)
  refine s_op (o_neq (a := (s.length : Int)) (b := 256) rfl rfl ?_)
  refine s_nil ?_
  refine t_norm (hK6 _ _ ?_)
  refine c_cond rfl (fun h7 => ?_) (fun h7 => ?_)
  · -- (s.length : Int) ≠ 256
    refine wp_seq_k fun K8 hK8 => ?_
    refine c_region ?_
    refine s_op (o_sight (v := (.agg #[(.int .i64 0), (.int .i64 0), (.slice none 0 0)])) (fun _ => by kernel_rfl) ?_)
    refine s_eff (o_storeN (vs := [(.int .i64 0), (.int .i64 0), (.slice none 0 0)]) (c' := #[(.int .i64 0), (.int .i64 0), (.slice none 0 0)]) ti36 rfl rfl rfl rfl (by intro u hu; simp only [List.mem_cons, List.not_mem_nil, or_false] at hu; rcases hu with rfl | rfl | rfl <;> first | rfl) (by simp) (by kernel_rfl) (hH4.front 0 rfl) fun w9 hH10 => ?_)
    refine s_op (o_assign (v := (.bool false)) rfl ?_)
    refine s_nil ?_
    refine t_norm (hK8 _ _ ?_)
    refine wp_ret ?_
    refine t_ret (c_retC2 Tryz.results31 rfl (run_loadVarN (cs := [(.int .i64 0), (.int .i64 0), (.slice none 0 0)]) Tryz.underlying36 rfl ti36 hH10 (seg_sub 0 rfl) (CellsAt.one rfl)) (x := (.bool false)) rfl ?_)
    have hE_ := readR_short (s := s) (by omega)
    have q11 : (readR s).2.1 = 0 := by rw [hE_]
    have q12 : (readR s).2.2.1 = 0 := by rw [hE_]
    have q13 : (readR s).2.2.2 = ([] : List Cel) := by rw [hE_]
    have q14 : (readR s).1 = false := by rw [hE_]
    have hH15 : Has E w9 [[], R] := (Has.nil (hH10.front 1 rfl)).first 2 rfl
    exact ⟨_, _, by rw [q11, q12]; rw [q14], (by rw [q13]; exact (Own.nil 70 2)), hH15⟩
  · -- not: (s.length : Int) ≠ 256
    refine wp_skip ?_
    refine t_norm (hK5 _ _ ?_)
    refine wp_seq_k fun K16 hK16 => ?_
    refine c_region ?_
    refine s_op (o_move (v := (S s)) rfl ?_)
    refine s_op (o_ssl_l Tryz.underlying9 rfl rfl (by omega) (by omega) ?_)
    refine s_op (o_callf (vs := #[(S (s.drop 1)), (.int .i64 8)]) ca70 rfl (args2 rfl rfl) (refTake_c hH4.all 8 (s.drop 1) (by simp only [List.length_drop]; omega)) ?_)
    rintro _ w19 ⟨rfl, hX17⟩
    refine ⟨_, rfl, ?_⟩
    have hH18 := hX17.of_all
    refine s_op (o_move (v := (.tuple #[(.int .i64 ((takeS (s.drop 1) 8).1)), (.bool ((takeS (s.drop 1) 8).2.2))])) rfl ?_)
    refine s_op (o_extract (v := (.int .i64 ((takeS (s.drop 1) 8).1))) rfl rfl ?_)
    refine s_op (o_extract (v := (.bool ((takeS (s.drop 1) 8).2.2))) rfl rfl ?_)
    refine s_op (o_assign (v := (.int .i64 ((takeS (s.drop 1) 8).1))) rfl ?_)
    refine s_op (o_assign (v := (.bool ((takeS (s.drop 1) 8).2.2))) rfl ?_)
    refine s_nil ?_
    refine t_norm (hK16 _ _ ?_)
    refine wp_seq_k fun K20 hK20 => ?_
    refine c_region ?_
    refine s_op (o_move (v := (S s)) rfl ?_)
    obtain ⟨c21, hx22⟩ : ∃ x_, s[((0 : Int)).toNat]? = some x_ := get_some (by omega)
    have c21_lt := c21.toNat_lt
    refine s_op (o_sidx Tryz.underlying9 rfl rfl (by omega) hx22 ?_)
    refine s_op (o_conv Tryz.underlying5 Tryz.underlying3 rfl (w_u8 _) ?_)
    refine s_op (o_move (v := (.int .i64 ((takeS (s.drop 1) 8).1))) rfl ?_)
    refine s_op (o_sight (v := (.agg #[(.int .i64 (c21.toNat : Int)), (.int .i64 ((takeS (s.drop 1) 8).1)), (.slice none 0 0)])) (fun _ => by kernel_rfl) ?_)
    refine s_op (o_alloc (cs := #[(.int .i64 0), (.int .i64 0), (.slice none 0 0)]) ti36 rfl hH18 fun b23 w24 hH25 => ?_)
    refine s_eff (o_storeN (vs := [(.int .i64 (c21.toNat : Int)), (.int .i64 ((takeS (s.drop 1) 8).1)), (.slice none 0 0)]) (c' := #[(.int .i64 (c21.toNat : Int)), (.int .i64 ((takeS (s.drop 1) 8).1)), (.slice none 0 0)]) ti36 rfl rfl rfl rfl (by intro u hu; simp only [List.mem_cons, List.not_mem_nil, or_false] at hu; rcases hu with rfl | rfl | rfl <;> first | rfl) (by simp) (by kernel_rfl) (hH25.front 0 rfl) fun w26 hH27 => ?_)
    refine s_nil ?_
    refine t_norm (hK20 _ _ ?_)
    refine wp_seq_k fun K28 hK28 => ?_
    refine c_region ?_
    refine s_op (o_assign (v := (.int .i64 10)) rfl ?_)
    refine s_nil ?_
    refine t_norm (hK28 _ _ ?_)
    refine wp_seq_k fun K29 hK29 => ?_
    obtain ⟨c9, hc9⟩ : ∃ x_, s[((9 : Int)).toNat]? = some x_ := get_some (by omega)
    have c9_lt := c9.toNat_lt
    let J31 : (Nat → Value) → World → Prop := fun r__ w__ => ∃ (okj : Bool) (vj : Value) (sj : List Hp) (accj : List Cel), Has E w__ [sj, [Hp.one b23 (.cells #[(.int .i64 (c21.toNat : Int)), (.int .i64 ((takeS (s.drop 1) 8).1)), vj] 36 (0, 0))], [Hp.one b2 (.cells #[(.int .i64 0), (.int .i64 0), (.slice none 0 0)] 36 (0, 0))], R] ∧ (Own 70 2 vj accj.length (accj.flatMap ceC) sj) ∧ (goR0 s = (okj, accj)) ∧ (accj.length ≤ 8) ∧ r__ 0 = (S s) ∧ r__ 2 = (.pointer (some ⟨b2, 0, none⟩)) ∧ r__ 3 = (.bool false) ∧ r__ 4 = (.int .i64 ((takeS (s.drop 1) 8).1)) ∧ r__ 5 = (.bool okj) ∧ r__ 6 = (.pointer (some ⟨b23, 0, none⟩)) ∧ r__ 13 = (.bool (decide ((s.length : Int) ≠ 256)))
    have hJ32 : ∀ r w, J31 r w → K29 (Go.Q.fr 106 r) w := by
      rintro r35 w33 ⟨okj, vj, sj, accj, hH34, hoj, hgj, hlj, e30_0, e30_2, e30_3, e30_4, e30_5, e30_6, e30_13⟩
      refine hK29 _ _ ?_
      refine wp_seq_k fun K36 hK36 => ?_
      refine wp_seq_k fun K37 hK37 => ?_
      refine c_region ?_
      refine s_op (o_move (v := (.bool okj)) e30_5 ?_)
      refine s_op (o_not rfl ?_)
      refine s_op (o_move (v := (.bool (!okj))) rfl ?_)
      rcases Bool.eq_false_or_eq_true (!okj) with h38 | h38
      · -- !okj
        have h38_n : okj = false := by simpa using h38
        refine s_off (b' := true) 93 rfl (congrArg Value.bool h38) rfl ?_
        refine s_off (b' := true) 93 rfl (congrArg Value.bool h38) rfl ?_
        refine s_off (b' := true) 93 rfl (congrArg Value.bool h38) rfl ?_
        refine s_op (o_pick_t (u := (.bool true)) ((rfl : _ = _).trans (congrArg Value.bool h38)) rfl ?_)
        refine s_op (o_move (v := (.bool true)) rfl ?_)
        refine s_off (b' := true) 98 rfl rfl rfl ?_
        refine s_off (b' := true) 98 rfl rfl rfl ?_
        refine s_off (b' := true) 98 rfl rfl rfl ?_
        refine s_off (b' := true) 98 rfl rfl rfl ?_
        refine s_op (o_pick_t (u := (.bool true)) rfl rfl ?_)
        refine s_nil ?_
        refine t_norm (hK37 _ _ ?_)
        refine c_true rfl rfl ?_
        refine wp_seq_k fun K39 hK39 => ?_
        refine c_region ?_
        refine s_op (o_sight (v := (.agg #[(.int .i64 0), (.int .i64 0), (.slice none 0 0)])) (fun _ => by kernel_rfl) ?_)
        refine s_eff (o_storeN (vs := [(.int .i64 0), (.int .i64 0), (.slice none 0 0)]) (c' := #[(.int .i64 0), (.int .i64 0), (.slice none 0 0)]) ti36 e30_2 rfl rfl rfl (by intro u hu; simp only [List.mem_cons, List.not_mem_nil, or_false] at hu; rcases hu with rfl | rfl | rfl <;> first | rfl) (by simp) (by kernel_rfl) (hH34.front 2 rfl) fun w40 hH41 => ?_)
        refine s_op (o_assign (v := (.bool false)) rfl ?_)
        refine s_nil ?_
        refine t_norm (hK39 _ _ ?_)
        refine wp_ret ?_
        refine t_ret (c_retC2 Tryz.results31 e30_2 (run_loadVarN (cs := [(.int .i64 0), (.int .i64 0), (.slice none 0 0)]) Tryz.underlying36 rfl ti36 hH41 (seg_sub 0 rfl) (CellsAt.one rfl)) (x := (.bool false)) rfl ?_)
        have hE_ := readR_no hgj (show s[0]? = some _ from hx22) (by first | exact .inl (by simpa using h7) | exact .inr (.inl (by simpa using h7)) | exact .inr (.inr h7) | exact .inl (by simpa using h38) | exact .inr (.inl (by simpa using h38)) | exact .inr (.inr h38) | exact .inl (by simpa using h38_n) | exact .inr (.inl (by simpa using h38_n)) | exact .inr (.inr h38_n))
        have q42 : (readR s).2.1 = 0 := by rw [hE_]
        have q43 : (readR s).2.2.1 = 0 := by rw [hE_]
        have q44 : (readR s).2.2.2 = ([] : List Cel) := by rw [hE_]
        have q45 : (readR s).1 = false := by rw [hE_]
        have hH46 : Has E w40 [[], R] := (Has.nil (hH41.front 3 rfl)).first 2 rfl
        exact ⟨_, _, by rw [q42, q43]; rw [q45], (by rw [q44]; exact (Own.nil 70 2)), hH46⟩
      · -- not: !okj
        have h38_n : okj = true := by simpa using h38
        refine s_on 93 rfl (congrArg Value.bool h38) (o_loadN (cs := [(.int .i64 (c21.toNat : Int)), (.int .i64 ((takeS (s.drop 1) 8).1)), vj]) Tryz.underlying36 rfl ti36 e30_6 hH34 (seg_sub 1 rfl) (CellsAt.one rfl) ?_)
        refine s_on 93 rfl (congrArg Value.bool h38) (o_callf (vs := #[(.agg #[(.int .i64 (c21.toNat : Int)), (.int .i64 ((takeS (s.drop 1) 8).1)), vj])]) ca17 rfl (args1 rfl) (r11right_c (no := (c21.toNat : Int)) (gsn := (takeS (s.drop 1) 8).1) (l := accj) hH34.all (hoj.sl.mono (seg_sub 0 rfl))) ?_)
        rintro _ w49 ⟨rfl, hX47⟩
        refine ⟨_, rfl, ?_⟩
        have hH48 := hX47.of_all
        refine s_on 93 rfl (congrArg Value.bool h38) (o_not rfl ?_)
        refine s_op (o_pick_f (u := (.bool (!(pageR (c21.toNat : Int) ((takeS (s.drop 1) 8).1) accj)))) ((rfl : _ = _).trans (congrArg Value.bool h38)) rfl ?_)
        refine s_op (o_move (v := (.bool (!(pageR (c21.toNat : Int) ((takeS (s.drop 1) 8).1) accj)))) rfl ?_)
        rcases Bool.eq_false_or_eq_true (!(pageR (c21.toNat : Int) ((takeS (s.drop 1) 8).1) accj)) with h50 | h50
        · -- !(pageR (c21.toNat : Int) ((takeS (s.drop 1) 8).1) accj)
          have h50_n : (pageR (c21.toNat : Int) ((takeS (s.drop 1) 8).1) accj) = false := by simpa using h50
          refine s_off (b' := true) 98 rfl (congrArg Value.bool h50) rfl ?_
          refine s_off (b' := true) 98 rfl (congrArg Value.bool h50) rfl ?_
          refine s_off (b' := true) 98 rfl (congrArg Value.bool h50) rfl ?_
          refine s_off (b' := true) 98 rfl (congrArg Value.bool h50) rfl ?_
          refine s_op (o_pick_t (u := (.bool true)) ((rfl : _ = _).trans (congrArg Value.bool h50)) rfl ?_)
          refine s_nil ?_
          refine t_norm (hK37 _ _ ?_)
          refine c_true rfl rfl ?_
          refine wp_seq_k fun K51 hK51 => ?_
          refine c_region ?_
          refine s_op (o_sight (v := (.agg #[(.int .i64 0), (.int .i64 0), (.slice none 0 0)])) (fun _ => by kernel_rfl) ?_)
          refine s_eff (o_storeN (vs := [(.int .i64 0), (.int .i64 0), (.slice none 0 0)]) (c' := #[(.int .i64 0), (.int .i64 0), (.slice none 0 0)]) ti36 e30_2 rfl rfl rfl (by intro u hu; simp only [List.mem_cons, List.not_mem_nil, or_false] at hu; rcases hu with rfl | rfl | rfl <;> first | rfl) (by simp) (by kernel_rfl) (hH48.front 2 rfl) fun w52 hH53 => ?_)
          refine s_op (o_assign (v := (.bool false)) rfl ?_)
          refine s_nil ?_
          refine t_norm (hK51 _ _ ?_)
          refine wp_ret ?_
          refine t_ret (c_retC2 Tryz.results31 e30_2 (run_loadVarN (cs := [(.int .i64 0), (.int .i64 0), (.slice none 0 0)]) Tryz.underlying36 rfl ti36 hH53 (seg_sub 0 rfl) (CellsAt.one rfl)) (x := (.bool false)) rfl ?_)
          have hE_ := readR_no hgj (show s[0]? = some _ from hx22) (by first | exact .inl (by simpa using h7) | exact .inr (.inl (by simpa using h7)) | exact .inr (.inr h7) | exact .inl (by simpa using h38) | exact .inr (.inl (by simpa using h38)) | exact .inr (.inr h38) | exact .inl (by simpa using h38_n) | exact .inr (.inl (by simpa using h38_n)) | exact .inr (.inr h38_n) | exact .inl (by simpa using h50) | exact .inr (.inl (by simpa using h50)) | exact .inr (.inr h50) | exact .inl (by simpa using h50_n) | exact .inr (.inl (by simpa using h50_n)) | exact .inr (.inr h50_n))
          have q54 : (readR s).2.1 = 0 := by rw [hE_]
          have q55 : (readR s).2.2.1 = 0 := by rw [hE_]
          have q56 : (readR s).2.2.2 = ([] : List Cel) := by rw [hE_]
          have q57 : (readR s).1 = false := by rw [hE_]
          have hH58 : Has E w52 [[], R] := (Has.nil (hH53.front 3 rfl)).first 2 rfl
          exact ⟨_, _, by rw [q54, q55]; rw [q57], (by rw [q56]; exact (Own.nil 70 2)), hH58⟩
        · -- not: !(pageR (c21.toNat : Int) ((takeS (s.drop 1) 8).1) accj)
          have h50_n : (pageR (c21.toNat : Int) ((takeS (s.drop 1) 8).1) accj) = true := by simpa using h50
          refine s_on 98 rfl (congrArg Value.bool h50) (o_loadN (cs := [(.int .i64 (c21.toNat : Int)), (.int .i64 ((takeS (s.drop 1) 8).1)), vj]) Tryz.underlying36 rfl ti36 e30_6 hH48 (seg_sub 1 rfl) (CellsAt.one rfl) ?_)
          refine s_on 98 rfl (congrArg Value.bool h50) (o_callf (vs := #[(.agg #[(.int .i64 (c21.toNat : Int)), (.int .i64 ((takeS (s.drop 1) 8).1)), vj])]) ca71 rfl (args1 rfl) (r11laid_c (no := (c21.toNat : Int)) (gsn := (takeS (s.drop 1) 8).1) (l := accj) hH48.all (hoj.sl.mono (seg_sub 0 rfl)) (by first | (simpa using h50) | (simpa using h50_n))) ?_)
          rintro _ w61 ⟨rfl, hX59⟩
          refine ⟨_, rfl, ?_⟩
          have hH60 := hX59.of_all
          refine s_on 98 rfl (congrArg Value.bool h50) (o_move (v := (S s)) e30_0 ?_)
          refine s_on 98 rfl (congrArg Value.bool h50) (o_sneq (a := (laidP (c21.toNat : Int) ((takeS (s.drop 1) 8).1) accj)) (b := s) rfl rfl ?_)
          refine s_op (o_pick_f (u := (.bool (decide ((laidP (c21.toNat : Int) ((takeS (s.drop 1) 8).1) accj) ≠ s)))) ((rfl : _ = _).trans (congrArg Value.bool h50)) rfl ?_)
          refine s_nil ?_
          refine t_norm (hK37 _ _ ?_)
          refine c_cond rfl (fun h62 => ?_) (fun h62 => ?_)
          · -- (laidP (c21.toNat : Int) ((takeS (s.drop 1) 8).1) accj) ≠ s
            refine wp_seq_k fun K63 hK63 => ?_
            refine c_region ?_
            refine s_op (o_sight (v := (.agg #[(.int .i64 0), (.int .i64 0), (.slice none 0 0)])) (fun _ => by kernel_rfl) ?_)
            refine s_eff (o_storeN (vs := [(.int .i64 0), (.int .i64 0), (.slice none 0 0)]) (c' := #[(.int .i64 0), (.int .i64 0), (.slice none 0 0)]) ti36 e30_2 rfl rfl rfl (by intro u hu; simp only [List.mem_cons, List.not_mem_nil, or_false] at hu; rcases hu with rfl | rfl | rfl <;> first | rfl) (by simp) (by kernel_rfl) (hH60.front 2 rfl) fun w65 hH66 => ?_)
            refine s_op (o_assign (v := (.bool false)) rfl ?_)
            refine s_nil ?_
            refine t_norm (hK63 _ _ ?_)
            refine wp_ret ?_
            refine t_ret (c_retC2 Tryz.results31 e30_2 (run_loadVarN (cs := [(.int .i64 0), (.int .i64 0), (.slice none 0 0)]) Tryz.underlying36 rfl ti36 hH66 (seg_sub 0 rfl) (CellsAt.one rfl)) (x := (.bool false)) rfl ?_)
            have hE_ := readR_no hgj (show s[0]? = some _ from hx22) (by first | exact .inl (by simpa using h7) | exact .inr (.inl (by simpa using h7)) | exact .inr (.inr h7) | exact .inl (by simpa using h38) | exact .inr (.inl (by simpa using h38)) | exact .inr (.inr h38) | exact .inl (by simpa using h38_n) | exact .inr (.inl (by simpa using h38_n)) | exact .inr (.inr h38_n) | exact .inl (by simpa using h50) | exact .inr (.inl (by simpa using h50)) | exact .inr (.inr h50) | exact .inl (by simpa using h50_n) | exact .inr (.inl (by simpa using h50_n)) | exact .inr (.inr h50_n) | exact .inl (by simpa using h62) | exact .inr (.inl (by simpa using h62)) | exact .inr (.inr h62))
            have q67 : (readR s).2.1 = 0 := by rw [hE_]
            have q68 : (readR s).2.2.1 = 0 := by rw [hE_]
            have q69 : (readR s).2.2.2 = ([] : List Cel) := by rw [hE_]
            have q70 : (readR s).1 = false := by rw [hE_]
            have hH71 : Has E w65 [[], R] := (Has.nil (hH66.front 3 rfl)).first 2 rfl
            exact ⟨_, _, by rw [q67, q68]; rw [q70], (by rw [q69]; exact (Own.nil 70 2)), hH71⟩
          · -- not: (laidP (c21.toNat : Int) ((takeS (s.drop 1) 8).1) accj) ≠ s
            refine wp_skip ?_
            refine t_norm (hK36 _ _ ?_)
            refine wp_seq_k fun K72 hK72 => ?_
            refine c_region ?_
            refine s_op (o_loadN (cs := [(.int .i64 (c21.toNat : Int)), (.int .i64 ((takeS (s.drop 1) 8).1)), vj]) Tryz.underlying36 rfl ti36 e30_6 hH60 (seg_sub 1 rfl) (CellsAt.one rfl) ?_)
            refine s_eff (o_storeN (vs := [(.int .i64 (c21.toNat : Int)), (.int .i64 ((takeS (s.drop 1) 8).1)), vj]) (c' := #[(.int .i64 (c21.toNat : Int)), (.int .i64 ((takeS (s.drop 1) 8).1)), vj]) ti36 e30_2 rfl rfl rfl (by intro u hu; simp only [List.mem_cons, List.not_mem_nil, or_false] at hu; rcases hu with rfl | rfl | rfl <;> first | rfl | exact hoj.one) (by simp) (by kernel_rfl) (hH60.front 2 rfl) fun w73 hH74 => ?_)
            refine s_op (o_assign (v := (.bool true)) rfl ?_)
            refine s_nil ?_
            refine t_norm (hK72 _ _ ?_)
            refine wp_ret ?_
            refine c_retC2 Tryz.results31 e30_2 (run_loadVarN (cs := [(.int .i64 (c21.toNat : Int)), (.int .i64 ((takeS (s.drop 1) 8).1)), vj]) Tryz.underlying36 rfl ti36 hH74 (seg_sub 0 rfl) (CellsAt.one rfl)) (x := (.bool true)) rfl ?_
            rw [show okj = true by simpa using h38] at hgj
            have hE_ := readR_yes (s := s) (by omega) (show s[0]? = some _ from hx22) hgj (by first | (simpa using h50) | (simpa using h50_n)) (Classical.not_not.1 h62)
            have q75 : (readR s).2.1 = (c21.toNat : Int) := by rw [hE_]
            have q76 : (readR s).2.2.1 = (takeS (s.drop 1) 8).1 := by rw [hE_]
            have q77 : (readR s).2.2.2 = accj := by rw [hE_]
            have q78 : (readR s).1 = true := by rw [hE_]
            have hH79 : Has E w73 [sj, R] := ((hH74.front 3 rfl).front 2 rfl).first 2 rfl
            exact ⟨_, _, by rw [q75, q76]; rw [q78], (by rw [q77]; exact hoj), hH79⟩
    refine wp_seq_k fun K80 hK80 => ?_
    refine c_region ?_
    refine s_op (o_assign (v := (.int .i64 0)) rfl ?_)
    refine s_nil ?_
    refine t_norm (hK80 _ _ ?_)
    refine wp_block ?_
    let I82 : Nat → (Nat → Value) → World → Prop := fun n__ r__ w__ => ∃ (i : Nat) (at_ : Nat) (ok : Bool) (vo : Value) (so : List Hp) (acc : List Cel), n__ = 8 - i ∧ Has E w__ [so, [Hp.one b23 (.cells #[(.int .i64 (c21.toNat : Int)), (.int .i64 ((takeS (s.drop 1) 8).1)), vo] 36 (0, 0))], [Hp.one b2 (.cells #[(.int .i64 0), (.int .i64 0), (.slice none 0 0)] 36 (0, 0))], R] ∧ (Own 70 2 vo acc.length (acc.flatMap ceC) so) ∧ (i ≤ 8 ∧ at_ ≤ 10 + 26 * i ∧ acc.length ≤ i) ∧ (goR0 s = grS s ok (min c9.toNat 8 - i) at_ acc) ∧ r__ 0 = (S s) ∧ r__ 2 = (.pointer (some ⟨b2, 0, none⟩)) ∧ r__ 3 = (.bool false) ∧ r__ 4 = (.int .i64 ((takeS (s.drop 1) 8).1)) ∧ r__ 5 = (.bool ok) ∧ r__ 6 = (.pointer (some ⟨b23, 0, none⟩)) ∧ r__ 7 = (.int .i64 (at_ : Int)) ∧ r__ 8 = (.int .i64 (i : Int)) ∧ r__ 13 = (.bool (decide ((s.length : Int) ≠ 256)))
    have hH83 : Has E w26 [[], [Hp.one b23 (.cells #[(.int .i64 (c21.toNat : Int)), (.int .i64 ((takeS (s.drop 1) 8).1)), (.slice none 0 0)] 36 (0, 0))], [Hp.one b2 (.cells #[(.int .i64 0), (.int .i64 0), (.slice none 0 0)] 36 (0, 0))], R] := (Has.nil (((hH27.front 2 rfl).front 2 rfl).front 2 rfl)).first 4 rfl
    refine c_loop I82 _ ⟨0, 10, ((takeS (s.drop 1) 8).2.2), (.slice none 0 0), [], [], rfl, hH83, Own.nil 70 2, ⟨by omega, by omega, by simp⟩, goR0_start (show s[9]? = some _ from hc9), rfl, rfl, rfl, rfl, rfl, rfl, rfl, rfl, rfl⟩ ?_
    rintro n_ r86 w84 ⟨i, at_, ok, vo, so, acc, rfl, hH85, hoo, hi, hgo, e81_0, e81_2, e81_3, e81_4, e81_5, e81_6, e81_7, e81_8, e81_13⟩
    obtain ⟨hi1_, hi2_, hi3_⟩ := hi
    refine wp_seq_k fun K87 hK87 => ?_
    refine wp_seq_k fun K88 hK88 => ?_
    refine c_region ?_
    refine s_op (o_move (v := (.int .i64 (i : Int))) e81_8 ?_)
    refine s_op (o_move (v := (S s)) e81_0 ?_)
    refine s_op (o_sidx Tryz.underlying9 rfl rfl (by omega) hc9 ?_)
    refine s_op (o_conv Tryz.underlying5 Tryz.underlying3 rfl (w_u8 _) ?_)
    refine s_op (o_lss (a := (i : Int)) (b := (c9.toNat : Int)) rfl rfl ?_)
    refine s_op (o_move (v := (.bool (decide ((i : Int) < (c9.toNat : Int))))) rfl ?_)
    by_cases h89 : (i : Int) < (c9.toNat : Int)
    · -- (i : Int) < (c9.toNat : Int)
      refine s_on 31 rfl (congrArg Value.bool (decide_eq_true h89)) (o_move (v := (.int .i64 (i : Int))) e81_8 ?_)
      refine s_on 31 rfl (congrArg Value.bool (decide_eq_true h89)) (o_lss (a := (i : Int)) (b := 8) rfl rfl ?_)
      refine s_op (o_pick_t (u := (.bool (decide ((i : Int) < 8)))) ((rfl : _ = _).trans (congrArg Value.bool (decide_eq_true h89))) rfl ?_)
      refine s_op (o_move (v := (.bool (decide ((i : Int) < 8)))) rfl ?_)
      by_cases h90 : (i : Int) < 8
      · -- (i : Int) < 8
        refine s_on 35 rfl (congrArg Value.bool (decide_eq_true h90)) (o_move (v := (.bool ok)) e81_5 ?_)
        refine s_op (o_pick_t (u := (.bool ok)) ((rfl : _ = _).trans (congrArg Value.bool (decide_eq_true h90))) rfl ?_)
        refine s_nil ?_
        refine t_norm (hK88 _ _ ?_)
        refine c_condb rfl (fun h91 => ?_) (fun h91 => ?_)
        · -- ok
          refine wp_skip ?_
          refine t_norm (hK87 _ _ ?_)
          refine wp_seq_k fun K92 hK92 => ?_
          refine wp_block ?_
          refine wp_seq_k fun K93 hK93 => ?_
          refine c_region ?_
          refine s_op (o_move (v := (S s)) e81_0 ?_)
          refine s_op (o_move (v := (.int .i64 (at_ : Int))) e81_7 ?_)
          obtain ⟨c94, hx95⟩ : ∃ x_, s[((at_ : Int)).toNat]? = some x_ := get_some (by omega)
          have c94_lt := c94.toNat_lt
          refine s_op (o_sidx Tryz.underlying9 rfl rfl (by omega) hx95 ?_)
          refine s_op (o_conv Tryz.underlying5 Tryz.underlying3 rfl (w_u8 _) ?_)
          refine s_op (o_assign (v := (.int .i64 (c94.toNat : Int))) rfl ?_)
          refine s_nil ?_
          refine t_norm (hK93 _ _ ?_)
          refine wp_seq_k fun K96 hK96 => ?_
          refine c_region ?_
          refine s_op (o_move (v := (.int .i64 (c94.toNat : Int))) rfl ?_)
          refine s_op (o_leq (a := (c94.toNat : Int)) (b := 8) rfl rfl ?_)
          refine s_op (o_assign (v := (.bool (decide ((c94.toNat : Int) ≤ 8)))) rfl ?_)
          refine s_nil ?_
          refine t_norm (hK96 _ _ ?_)
          refine wp_seq_k fun K97 hK97 => ?_
          refine wp_seq_k fun K98 hK98 => ?_
          refine c_region ?_
          refine s_op (o_move (v := (.bool (decide ((c94.toNat : Int) ≤ 8)))) rfl ?_)
          refine s_op (o_not2 (b := decide ((c94.toNat : Int) ≤ 8)) (b' := decide (¬ ((c94.toNat : Int) ≤ 8))) rfl not_dec ?_)
          refine s_nil ?_
          refine t_norm (hK98 _ _ ?_)
          refine c_cond rfl (fun h99 => ?_) (fun h99 => ?_)
          · -- ¬ ((c94.toNat : Int) ≤ 8)
            refine wp_exit ?_
            refine t_exit (x_out rfl (t_exit (t_exit (x_in (?_)))))
            refine t_norm (hJ32 _ _ ⟨(decide ((c94.toNat : Int) ≤ 8)), vo, so, acc, hH85, (hoo), (by rw [decide_eq_false (by omega)]; exact grS_no1 hgo h91 (by omega) (show s[at_]? = some _ from hx95) (by omega)), (by omega), e81_0, e81_2, e81_3, e81_4, rfl, e81_6, e81_13⟩)
          · -- not: ¬ ((c94.toNat : Int) ≤ 8)
            refine wp_skip ?_
            refine t_norm (hK97 _ _ ?_)
            refine wp_seq_k fun K100 hK100 => ?_
            refine c_region ?_
            refine s_op (o_move (v := (S s)) e81_0 ?_)
            refine s_op (o_move (v := (.int .i64 (at_ : Int))) e81_7 ?_)
            refine s_op (o_add (a := (at_ : Int)) (b := 1) rfl rfl (w64 (by omega) (by omega)) ?_)
            refine s_op (o_move (v := (.int .i64 (c94.toNat : Int))) rfl ?_)
            refine s_op (o_add (a := (at_ : Int) + 1) (b := (c94.toNat : Int)) rfl rfl (w64 (by omega) (by omega)) ?_)
            obtain ⟨c101, hx102⟩ : ∃ x_, s[(((at_ : Int) + 1) + (c94.toNat : Int)).toNat]? = some x_ := get_some (by omega)
            have c101_lt := c101.toNat_lt
            refine s_op (o_sidx Tryz.underlying9 rfl rfl (by omega) hx102 ?_)
            refine s_op (o_conv Tryz.underlying5 Tryz.underlying3 rfl (w_u8 _) ?_)
            refine s_op (o_assign (v := (.int .i64 (c101.toNat : Int))) rfl ?_)
            refine s_nil ?_
            refine t_norm (hK100 _ _ ?_)
            refine wp_seq_k fun K103 hK103 => ?_
            refine c_region ?_
            refine s_op (o_move (v := (.int .i64 (c101.toNat : Int))) rfl ?_)
            refine s_op (o_leq (a := (c101.toNat : Int)) (b := 16) rfl rfl ?_)
            refine s_op (o_assign (v := (.bool (decide ((c101.toNat : Int) ≤ 16)))) rfl ?_)
            refine s_nil ?_
            refine t_norm (hK103 _ _ ?_)
            refine wp_seq_k fun K104 hK104 => ?_
            refine wp_seq_k fun K105 hK105 => ?_
            refine c_region ?_
            refine s_op (o_move (v := (.bool (decide ((c101.toNat : Int) ≤ 16)))) rfl ?_)
            refine s_op (o_not2 (b := decide ((c101.toNat : Int) ≤ 16)) (b' := decide (¬ ((c101.toNat : Int) ≤ 16))) rfl not_dec ?_)
            refine s_nil ?_
            refine t_norm (hK105 _ _ ?_)
            refine c_cond rfl (fun h106 => ?_) (fun h106 => ?_)
            · -- ¬ ((c101.toNat : Int) ≤ 16)
              refine wp_exit ?_
              refine t_exit (x_out rfl (t_exit (t_exit (x_in (?_)))))
              refine t_norm (hJ32 _ _ ⟨(decide ((c101.toNat : Int) ≤ 16)), vo, so, acc, hH85, (hoo), (by rw [decide_eq_false (by omega)]; exact grS_no2 hgo h91 (by omega) (show s[at_]? = some _ from hx95) (by omega) hx102 (by omega) (by omega)), (by omega), e81_0, e81_2, e81_3, e81_4, rfl, e81_6, e81_13⟩)
            · -- not: ¬ ((c101.toNat : Int) ≤ 16)
              refine wp_skip ?_
              refine t_norm (hK104 _ _ ?_)
              refine wp_seq_k fun K107 hK107 => ?_
              refine Rest.region mixed (by kernel_rfl) ?_
              have hH108 : Has E { w84 with drawn := w84.drawn + 1 } [so, [Hp.one b23 (.cells #[(.int .i64 (c21.toNat : Int)), (.int .i64 ((takeS (s.drop 1) 8).1)), vo] 36 (0, 0))], [Hp.one b2 (.cells #[(.int .i64 0), (.int .i64 0), (.slice none 0 0)] 36 (0, 0))], R] := Has0.drew hH85 _
              refine Rest.phaseA (fun w_ => Has E w_ [[Hp.one b23 (.cells #[(.int .i64 (c21.toNat : Int)), (.int .i64 ((takeS (s.drop 1) 8).1)), vo] 36 (0, 0))]]) 0 24 24 rfl (by decide) (by kernel_rfl) ?_
              refine a_op 0 rfl (by kernel_rfl) (fun w_ h_ => o_fieldAddr (k := 2) (fun _ => by kernel_rfl) e81_6 ⟨rfl, rfl⟩) ?_
              refine a_op 1 rfl (by kernel_rfl) (fun w_ h_ => o_load1 (v := vo) Tryz.underlying34 rfl rfl h_ (seg_sub 0 rfl) (CellsAt.one rfl) ⟨rfl, rfl⟩) ?_
              refine a_op 2 rfl (by kernel_rfl) (fun w_ h_ => o_move (v := (S s)) e81_0 ⟨rfl, rfl⟩) ?_
              refine a_op 3 rfl (by kernel_rfl) (fun w_ h_ => o_move (v := (.int .i64 (at_ : Int))) e81_7 ⟨rfl, rfl⟩) ?_
              refine a_op 4 rfl (by kernel_rfl) (fun w_ h_ => o_add (a := (at_ : Int)) (b := 1) rfl rfl (w64 (by omega) (by omega)) ⟨rfl, rfl⟩) ?_
              refine a_op 5 rfl (by kernel_rfl) (fun w_ h_ => o_move (v := (.int .i64 (at_ : Int))) e81_7 ⟨rfl, rfl⟩) ?_
              refine a_op 6 rfl (by kernel_rfl) (fun w_ h_ => o_add (a := (at_ : Int)) (b := 1) rfl rfl (w64 (by omega) (by omega)) ⟨rfl, rfl⟩) ?_
              refine a_op 7 rfl (by kernel_rfl) (fun w_ h_ => o_move (v := (.int .i64 (c94.toNat : Int))) rfl ⟨rfl, rfl⟩) ?_
              refine a_op 8 rfl (by kernel_rfl) (fun w_ h_ => o_add (a := (at_ : Int) + 1) (b := (c94.toNat : Int)) rfl rfl (w64 (by omega) (by omega)) ⟨rfl, rfl⟩) ?_
              refine a_op 9 rfl (by kernel_rfl) (fun w_ h_ => o_ssl Tryz.underlying9 rfl rfl rfl (by omega) (by omega) (by omega) ⟨rfl, rfl⟩) ?_
              refine a_op 10 rfl (by kernel_rfl) (fun w_ h_ => o_move (v := (S s)) e81_0 ⟨rfl, rfl⟩) ?_
              refine a_op 11 rfl (by kernel_rfl) (fun w_ h_ => o_move (v := (.int .i64 (at_ : Int))) e81_7 ⟨rfl, rfl⟩) ?_
              refine a_op 12 rfl (by kernel_rfl) (fun w_ h_ => o_add (a := (at_ : Int)) (b := 2) rfl rfl (w64 (by omega) (by omega)) ⟨rfl, rfl⟩) ?_
              refine a_op 13 rfl (by kernel_rfl) (fun w_ h_ => o_move (v := (.int .i64 (c94.toNat : Int))) rfl ⟨rfl, rfl⟩) ?_
              refine a_op 14 rfl (by kernel_rfl) (fun w_ h_ => o_add (a := (at_ : Int) + 2) (b := (c94.toNat : Int)) rfl rfl (w64 (by omega) (by omega)) ⟨rfl, rfl⟩) ?_
              refine a_op 15 rfl (by kernel_rfl) (fun w_ h_ => o_move (v := (.int .i64 (at_ : Int))) e81_7 ⟨rfl, rfl⟩) ?_
              refine a_op 16 rfl (by kernel_rfl) (fun w_ h_ => o_add (a := (at_ : Int)) (b := 2) rfl rfl (w64 (by omega) (by omega)) ⟨rfl, rfl⟩) ?_
              refine a_op 17 rfl (by kernel_rfl) (fun w_ h_ => o_move (v := (.int .i64 (c94.toNat : Int))) rfl ⟨rfl, rfl⟩) ?_
              refine a_op 18 rfl (by kernel_rfl) (fun w_ h_ => o_add (a := (at_ : Int) + 2) (b := (c94.toNat : Int)) rfl rfl (w64 (by omega) (by omega)) ⟨rfl, rfl⟩) ?_
              refine a_op 19 rfl (by kernel_rfl) (fun w_ h_ => o_move (v := (.int .i64 (c101.toNat : Int))) rfl ⟨rfl, rfl⟩) ?_
              refine a_op 20 rfl (by kernel_rfl) (fun w_ h_ => o_add (a := ((at_ : Int) + 2) + (c94.toNat : Int)) (b := (c101.toNat : Int)) rfl rfl (w64 (by omega) (by omega)) ⟨rfl, rfl⟩) ?_
              refine a_op 21 rfl (by kernel_rfl) (fun w_ h_ => o_ssl Tryz.underlying9 rfl rfl rfl (by omega) (by omega) (by omega) ⟨rfl, rfl⟩) ?_
              refine a_op 22 rfl (by kernel_rfl) (fun w_ h_ => o_sight (v := (.agg #[(S ((s.take (((at_ : Int) + 1) + (c94.toNat : Int)).toNat).drop ((at_ : Int) + 1).toNat)), (S ((s.take ((((at_ : Int) + 2) + (c94.toNat : Int)) + (c101.toNat : Int)).toNat).drop (((at_ : Int) + 2) + (c94.toNat : Int)).toNat))])) (fun _ => by kernel_rfl) ⟨rfl, rfl⟩) ?_
              have hH109 : Has E { w84 with drawn := w84.drawn + 1 } [[Hp.one b23 (.cells #[(.int .i64 (c21.toNat : Int)), (.int .i64 ((takeS (s.drop 1) 8).1)), vo] 36 (0, 0))]] := (hH108.front 1 rfl).first 1 rfl
              refine a_w 23 rfl (by kernel_rfl) hH109 (o_buildSlice (ps := #[(0, (.agg #[(S ((s.take (((at_ : Int) + 1) + (c94.toNat : Int)).toNat).drop ((at_ : Int) + 1).toNat)), (S ((s.take ((((at_ : Int) + 2) + (c94.toNat : Int)) + (c101.toNat : Int)).toNat).drop (((at_ : Int) + 2) + (c94.toNat : Int)).toNat))]))]) (cells := #[(S ((s.take (((at_ : Int) + 1) + (c94.toNat : Int)).toNat).drop ((at_ : Int) + 1).toNat)), (S ((s.take ((((at_ : Int) + 2) + (c94.toNat : Int)) + (c101.toNat : Int)).toNat).drop (((at_ : Int) + 2) + (c94.toNat : Int)).toNat))]) Tryz.underlying34 ti70 (by decide) (parts1 rfl) (by kernel_rfl) hH108 fun b110 w111 hH112 => ?_)
              have hH113 : Has E w111 [[Hp.one b23 (.cells #[(.int .i64 (c21.toNat : Int)), (.int .i64 ((takeS (s.drop 1) 8).1)), vo] 36 (0, 0))]] := (hH112.front 2 rfl).first 1 rfl
              refine a_done (by kernel_rfl) hH113 ?_
              refine r_op 24 rfl (by kernel_rfl) (o_append Tryz.underlying34 ti70 rfl (by decide) rfl hoo rfl (sl_litF (f := ceC) (l := [(((s.take (((at_ : Int) + 1) + (c94.toNat : Int)).toNat).drop ((at_ : Int) + 1).toNat, (s.take ((((at_ : Int) + 2) + (c94.toNat : Int)) + (c101.toNat : Int)).toNat).drop (((at_ : Int) + 2) + (c94.toNat : Int)).toNat) : Cel)]) ceC_len rfl rfl (by simp)) (hH112.front 1 rfl) (seg_sub 0 rfl) (one_ceC _) (by simp; omega) (by simp; omega) fun v114 s115 w117 ho116 hH118 => ?_)
              have ho116 : Own 70 2 v114 (acc ++ [(((s.take (((at_ : Int) + 1) + (c94.toNat : Int)).toNat).drop ((at_ : Int) + 1).toNat, (s.take ((((at_ : Int) + 2) + (c94.toNat : Int)) + (c101.toNat : Int)).toNat).drop (((at_ : Int) + 2) + (c94.toNat : Int)).toNat) : Cel)]).length ((acc ++ [(((s.take (((at_ : Int) + 1) + (c94.toNat : Int)).toNat).drop ((at_ : Int) + 1).toNat, (s.take ((((at_ : Int) + 2) + (c94.toNat : Int)) + (c101.toNat : Int)).toNat).drop (((at_ : Int) + 2) + (c94.toNat : Int)).toNat) : Cel)]).flatMap ceC) s115 := ho116.appF
              refine r_op 25 rfl (by kernel_rfl) (o_fieldAddr (k := 2) (fun _ => by kernel_rfl) e81_6 ?_)
              refine r_eff 26 rfl (by kernel_rfl) (o_store1 (c' := #[(.int .i64 (c21.toNat : Int)), (.int .i64 ((takeS (s.drop 1) 8).1)), v114]) ti34 rfl rfl ho116.one (by simp) rfl (hH118.front 2 rfl) fun w119 hH120 => ?_)
              refine Rest.done (by kernel_rfl) ?_
              refine t_norm (hK107 _ _ ?_)
              refine c_region ?_
              refine s_op (o_move (v := (.int .i64 (at_ : Int))) e81_7 ?_)
              refine s_op (o_add (a := (at_ : Int)) (b := 2) rfl rfl (w64 (by omega) (by omega)) ?_)
              refine s_op (o_move (v := (.int .i64 (c94.toNat : Int))) rfl ?_)
              refine s_op (o_add (a := (at_ : Int) + 2) (b := (c94.toNat : Int)) rfl rfl (w64 (by omega) (by omega)) ?_)
              refine s_op (o_move (v := (.int .i64 (c101.toNat : Int))) rfl ?_)
              refine s_op (o_add (a := ((at_ : Int) + 2) + (c94.toNat : Int)) (b := (c101.toNat : Int)) rfl rfl (w64 (by omega) (by omega)) ?_)
              refine s_op (o_assign (v := (.int .i64 ((((at_ : Int) + 2) + (c94.toNat : Int)) + (c101.toNat : Int)))) rfl ?_)
              refine s_nil ?_
              refine b_norm ?_
              refine t_norm (hK92 _ _ ?_)
              refine c_region ?_
              refine s_op (o_move (v := (.int .i64 (i : Int))) e81_8 ?_)
              refine s_op (o_add (a := (i : Int)) (b := 1) rfl rfl (w64 (by omega) (by omega)) ?_)
              refine s_op (o_assign (v := (.int .i64 ((i : Int) + 1))) rfl ?_)
              refine s_nil ?_
              have hH121 : Has E w119 [s115, [Hp.one b23 (.cells #[(.int .i64 (c21.toNat : Int)), (.int .i64 ((takeS (s.drop 1) 8).1)), v114] 36 (0, 0))], [Hp.one b2 (.cells #[(.int .i64 0), (.int .i64 0), (.slice none 0 0)] 36 (0, 0))], R] := ((((hH120.front 4 rfl).front 4 rfl).front 2 rfl).front 3 rfl).first 4 rfl
              refine t_norm ⟨8 - (i + 1), _, rfl, ?_, ?_⟩
              · omega
              · exact ⟨(i + 1), (((((at_ : Int) + 2) + (c94.toNat : Int)) + (c101.toNat : Int)).toNat), (decide ((c101.toNat : Int) ≤ 16)), v114, s115, (acc ++ [(((s.take (((at_ : Int) + 1) + (c94.toNat : Int)).toNat).drop ((at_ : Int) + 1).toNat, (s.take ((((at_ : Int) + 2) + (c94.toNat : Int)) + (c101.toNat : Int)).toNat).drop (((at_ : Int) + 2) + (c94.toNat : Int)).toNat) : Cel)]), rfl, hH121, (ho116), (⟨by omega, by omega, by simp only [List.length_append, List.length_cons, List.length_nil]; omega⟩), (grS_go hgo h91 (by omega) (show s[at_]? = some _ from hx95) (by omega) hx102 (by omega) (by omega) (by omega) (by omega) (by omega) (by omega) (by omega) (decide_eq_true (by omega))), e81_0, e81_2, e81_3, e81_4, rfl, e81_6, rfl, rfl, e81_13⟩
        · -- not: ok
          refine wp_exit ?_
          refine t_exit (t_exit (x_in (?_)))
          refine t_norm (hJ32 _ _ ⟨ok, vo, so, acc, hH85, (hoo), (grS_end hgo (by first | exact .inr (by omega) | exact .inl (by simpa using h91))), (by omega), e81_0, e81_2, e81_3, e81_4, e81_5, e81_6, e81_13⟩)
      · -- not: (i : Int) < 8
        refine s_off (b' := false) 35 rfl (congrArg Value.bool (decide_eq_false h90)) rfl ?_
        refine s_op (o_pick_f (u := (.bool false)) ((rfl : _ = _).trans (congrArg Value.bool (decide_eq_false h90))) rfl ?_)
        refine s_nil ?_
        refine t_norm (hK88 _ _ ?_)
        refine c_false rfl rfl ?_
        refine wp_exit ?_
        refine t_exit (t_exit (x_in (?_)))
        refine t_norm (hJ32 _ _ ⟨ok, vo, so, acc, hH85, (hoo), (grS_end hgo (by first | exact .inr (by omega))), (by omega), e81_0, e81_2, e81_3, e81_4, e81_5, e81_6, e81_13⟩)
    · -- not: (i : Int) < (c9.toNat : Int)
      refine s_off (b' := false) 31 rfl (congrArg Value.bool (decide_eq_false h89)) rfl ?_
      refine s_off (b' := false) 31 rfl (congrArg Value.bool (decide_eq_false h89)) rfl ?_
      refine s_op (o_pick_f (u := (.bool false)) ((rfl : _ = _).trans (congrArg Value.bool (decide_eq_false h89))) rfl ?_)
      refine s_op (o_move (v := (.bool false)) rfl ?_)
      refine s_off (b' := false) 35 rfl rfl rfl ?_
      refine s_op (o_pick_f (u := (.bool false)) rfl rfl ?_)
      refine s_nil ?_
      refine t_norm (hK88 _ _ ?_)
      refine c_false rfl rfl ?_
      refine wp_exit ?_
      refine t_exit (t_exit (x_in (?_)))
      refine t_norm (hJ32 _ _ ⟨ok, vo, so, acc, hH85, (hoo), (grS_end hgo (by first | exact .inr (by omega))), (by omega), e81_0, e81_2, e81_3, e81_4, e81_5, e81_6, e81_13⟩)
end Go.Q
namespace Go.Q
open Go.Proofs
set_option linter.unusedVariables false
set_option maxRecDepth 100000
attribute [local irreducible] wpList OK Code.wp
set_option maxHeartbeats 4000000 in
theorem r11same_c {E w : World} {R : List Hp} {noa : Int} {gsna : Int} {v_la : Value} {la : List Cel} {nob : Int} {gsnb : Int} {v_lb : Value} {lb : List Cel}  (hH : Has E w [R]) (h_la : Sl R 2 v_la la.length (la.flatMap ceC)) (h_lb : Sl R 2 v_lb lb.length (lb.flatMap ceC)) :
    Calls Tryz.prog 25 #[(.agg #[(.int .i64 noa), (.int .i64 gsna), v_la]), (.agg #[(.int .i64 nob), (.int .i64 gsnb), v_lb])] w fun e w' => e = .returned (.bool (decide (noa = nob ∧ gsna = gsnb ∧ la = lb))) ∧ Has E w' [R] := by
  have hna_ := h_la.le
  have hnb_ := h_lb.le
  refine c_enter (args := [(.agg #[(.int .i64 noa), (.int .i64 gsna), v_la]), (.agg #[(.int .i64 nob), (.int .i64 gsnb), v_lb])]) Tryz.func25 rfl Tryz.ntmps25 (by simp) ?_
  refine wp_seq_k fun K1 hK1 => ?_
  refine c_region ?_
  refine s_op (o_box (cs := #[(.int .i64 noa), (.int .i64 gsna), v_la]) rfl rfl hH fun b2 w3 hH4 => ?_)
  refine s_op (o_box (cs := #[(.int .i64 nob), (.int .i64 gsnb), v_lb]) rfl rfl hH4 fun b5 w6 hH7 => ?_)
  refine s_op (o_assign (v := (.bool false)) rfl ?_)
  refine s_nil ?_
  refine t_norm (hK1 _ _ ?_)
  refine wp_seq_k fun K8 hK8 => ?_
  refine wp_seq_k fun K9 hK9 => ?_
  refine c_region ?_
  refine s_op (o_fieldAddr (k := 0) (fun _ => by kernel_rfl) rfl ?_)
  refine s_op (o_load1 (v := (.int .i64 noa)) Tryz.underlying3 rfl rfl hH7 (seg_sub 1 rfl) (CellsAt.one rfl) ?_)
  refine s_op (o_fieldAddr (k := 0) (fun _ => by kernel_rfl) rfl ?_)
  refine s_op (o_load1 (v := (.int .i64 nob)) Tryz.underlying3 rfl rfl hH7 (seg_sub 0 rfl) (CellsAt.one rfl) ?_)
  refine s_op (o_neq (a := noa) (b := nob) rfl rfl ?_)
  refine s_op (o_move (v := (.bool (decide (noa ≠ nob)))) rfl ?_)
  by_cases h10 : noa ≠ nob
  · -- noa ≠ nob
    refine s_off (b' := true) 11 rfl (congrArg Value.bool (decide_eq_true h10)) rfl ?_
    refine s_off (b' := true) 11 rfl (congrArg Value.bool (decide_eq_true h10)) rfl ?_
    refine s_off (b' := true) 11 rfl (congrArg Value.bool (decide_eq_true h10)) rfl ?_
    refine s_off (b' := true) 11 rfl (congrArg Value.bool (decide_eq_true h10)) rfl ?_
    refine s_off (b' := true) 11 rfl (congrArg Value.bool (decide_eq_true h10)) rfl ?_
    refine s_op (o_pick_t (u := (.bool true)) ((rfl : _ = _).trans (congrArg Value.bool (decide_eq_true h10))) rfl ?_)
    refine s_op (o_move (v := (.bool true)) rfl ?_)
    refine s_off (b' := true) 18 rfl rfl rfl ?_
    refine s_off (b' := true) 18 rfl rfl rfl ?_
    refine s_off (b' := true) 18 rfl rfl rfl ?_
    refine s_off (b' := true) 18 rfl rfl rfl ?_
    refine s_off (b' := true) 18 rfl rfl rfl ?_
    refine s_off (b' := true) 18 rfl rfl rfl ?_
    refine s_off (b' := true) 18 rfl rfl rfl ?_
    refine s_op (o_pick_t (u := (.bool true)) rfl rfl ?_)
    refine s_nil ?_
    refine t_norm (hK9 _ _ ?_)
    refine c_true rfl rfl ?_
    refine wp_seq_k fun K11 hK11 => ?_
    refine c_region ?_
    refine s_op (o_assign (v := (.bool false)) rfl ?_)
    refine s_nil ?_
    refine t_norm (hK11 _ _ ?_)
    refine wp_ret ?_
    refine t_ret (c_ret1 Tryz.results25  (v := (.bool false)) rfl ?_)
    have q12 : (decide (noa = nob ∧ gsna = gsnb ∧ la = lb)) = false := by exact (decide_eq_false (fun g_ => by first | omega | (have := congrArg List.length g_.2.2; omega)))
    have hH13 : Has E w6 [R] := (hH7.front 2 rfl).first 1 rfl
    exact ⟨by rw [q12], hH13⟩
  · -- not: noa ≠ nob
    refine s_on 11 rfl (congrArg Value.bool (decide_eq_false h10)) (o_fieldAddr (k := 1) (fun _ => by kernel_rfl) rfl ?_)
    refine s_on 11 rfl (congrArg Value.bool (decide_eq_false h10)) (o_load1 (v := (.int .i64 gsna)) Tryz.underlying3 rfl rfl hH7 (seg_sub 1 rfl) (CellsAt.one rfl) ?_)
    refine s_on 11 rfl (congrArg Value.bool (decide_eq_false h10)) (o_fieldAddr (k := 1) (fun _ => by kernel_rfl) rfl ?_)
    refine s_on 11 rfl (congrArg Value.bool (decide_eq_false h10)) (o_load1 (v := (.int .i64 gsnb)) Tryz.underlying3 rfl rfl hH7 (seg_sub 0 rfl) (CellsAt.one rfl) ?_)
    refine s_on 11 rfl (congrArg Value.bool (decide_eq_false h10)) (o_neq (a := gsna) (b := gsnb) rfl rfl ?_)
    refine s_op (o_pick_f (u := (.bool (decide (gsna ≠ gsnb)))) ((rfl : _ = _).trans (congrArg Value.bool (decide_eq_false h10))) rfl ?_)
    refine s_op (o_move (v := (.bool (decide (gsna ≠ gsnb)))) rfl ?_)
    by_cases h14 : gsna ≠ gsnb
    · -- gsna ≠ gsnb
      refine s_off (b' := true) 18 rfl (congrArg Value.bool (decide_eq_true h14)) rfl ?_
      refine s_off (b' := true) 18 rfl (congrArg Value.bool (decide_eq_true h14)) rfl ?_
      refine s_off (b' := true) 18 rfl (congrArg Value.bool (decide_eq_true h14)) rfl ?_
      refine s_off (b' := true) 18 rfl (congrArg Value.bool (decide_eq_true h14)) rfl ?_
      refine s_off (b' := true) 18 rfl (congrArg Value.bool (decide_eq_true h14)) rfl ?_
      refine s_off (b' := true) 18 rfl (congrArg Value.bool (decide_eq_true h14)) rfl ?_
      refine s_off (b' := true) 18 rfl (congrArg Value.bool (decide_eq_true h14)) rfl ?_
      refine s_op (o_pick_t (u := (.bool true)) ((rfl : _ = _).trans (congrArg Value.bool (decide_eq_true h14))) rfl ?_)
      refine s_nil ?_
      refine t_norm (hK9 _ _ ?_)
      refine c_true rfl rfl ?_
      refine wp_seq_k fun K15 hK15 => ?_
      refine c_region ?_
      refine s_op (o_assign (v := (.bool false)) rfl ?_)
      refine s_nil ?_
      refine t_norm (hK15 _ _ ?_)
      refine wp_ret ?_
      refine t_ret (c_ret1 Tryz.results25  (v := (.bool false)) rfl ?_)
      have q16 : (decide (noa = nob ∧ gsna = gsnb ∧ la = lb)) = false := by exact (decide_eq_false (fun g_ => by first | omega | (have := congrArg List.length g_.2.2; omega)))
      have hH17 : Has E w6 [R] := (hH7.front 2 rfl).first 1 rfl
      exact ⟨by rw [q16], hH17⟩
    · -- not: gsna ≠ gsnb
      refine s_on 18 rfl (congrArg Value.bool (decide_eq_false h14)) (o_fieldAddr (k := 2) (fun _ => by kernel_rfl) rfl ?_)
      refine s_on 18 rfl (congrArg Value.bool (decide_eq_false h14)) (o_load1 (v := v_la) Tryz.underlying34 rfl rfl hH7 (seg_sub 1 rfl) (CellsAt.one rfl) ?_)
      refine s_on 18 rfl (congrArg Value.bool (decide_eq_false h14)) (o_lenS Tryz.underlying34 rfl h_la ?_)
      refine s_on 18 rfl (congrArg Value.bool (decide_eq_false h14)) (o_fieldAddr (k := 2) (fun _ => by kernel_rfl) rfl ?_)
      refine s_on 18 rfl (congrArg Value.bool (decide_eq_false h14)) (o_load1 (v := v_lb) Tryz.underlying34 rfl rfl hH7 (seg_sub 0 rfl) (CellsAt.one rfl) ?_)
      refine s_on 18 rfl (congrArg Value.bool (decide_eq_false h14)) (o_lenS Tryz.underlying34 rfl h_lb ?_)
      refine s_on 18 rfl (congrArg Value.bool (decide_eq_false h14)) (o_neq (a := ((la.length : Nat) : Int)) (b := ((lb.length : Nat) : Int)) rfl rfl ?_)
      refine s_op (o_pick_f (u := (.bool (decide (((la.length : Nat) : Int) ≠ ((lb.length : Nat) : Int))))) ((rfl : _ = _).trans (congrArg Value.bool (decide_eq_false h14))) rfl ?_)
      refine s_nil ?_
      refine t_norm (hK9 _ _ ?_)
      refine c_cond rfl (fun h18 => ?_) (fun h18 => ?_)
      · -- ((la.length : Nat) : Int) ≠ ((lb.length : Nat) : Int)
        refine wp_seq_k fun K19 hK19 => ?_
        refine c_region ?_
        refine s_op (o_assign (v := (.bool false)) rfl ?_)
        refine s_nil ?_
        refine t_norm (hK19 _ _ ?_)
        refine wp_ret ?_
        refine t_ret (c_ret1 Tryz.results25  (v := (.bool false)) rfl ?_)
        have q20 : (decide (noa = nob ∧ gsna = gsnb ∧ la = lb)) = false := by exact (decide_eq_false (fun g_ => by first | omega | (have := congrArg List.length g_.2.2; omega)))
        have hH21 : Has E w6 [R] := (hH7.front 2 rfl).first 1 rfl
        exact ⟨by rw [q20], hH21⟩
      · -- not: ((la.length : Nat) : Int) ≠ ((lb.length : Nat) : Int)
        refine wp_skip ?_
        refine t_norm (hK8 _ _ ?_)
        refine wp_seq_k fun K22 hK22 => ?_
        refine wp_seq_k fun K23 hK23 => ?_
        refine c_region ?_
        refine s_op (o_assign (v := (.int .i64 0)) rfl ?_)
        refine s_nil ?_
        refine t_norm (hK23 _ _ ?_)
        refine wp_block ?_
        let I25 : Nat → (Nat → Value) → World → Prop := fun n__ r__ w__ => ∃ (k : Nat), n__ = la.length - k ∧ Has E w__ [[Hp.one b5 (.cells #[(.int .i64 nob), (.int .i64 gsnb), v_lb] 36 (0, 0))], [Hp.one b2 (.cells #[(.int .i64 noa), (.int .i64 gsna), v_la] 36 (0, 0))], R] ∧ (k ≤ la.length) ∧ (∀ j, j < k → la[j]? = lb[j]?) ∧ r__ 0 = (.agg #[(.int .i64 noa), (.int .i64 gsna), v_la]) ∧ r__ 1 = (.agg #[(.int .i64 nob), (.int .i64 gsnb), v_lb]) ∧ r__ 2 = (.pointer (some ⟨b2, 0, none⟩)) ∧ r__ 3 = (.pointer (some ⟨b5, 0, none⟩)) ∧ r__ 5 = (.int .i64 (k : Int)) ∧ r__ 26 = (.bool (decide (((la.length : Nat) : Int) ≠ ((lb.length : Nat) : Int))))
        refine c_loop I25 _ ⟨0, rfl, hH7, Nat.zero_le _, fun j hj => absurd hj (Nat.not_lt_zero j), rfl, rfl, rfl, rfl, rfl, rfl⟩ ?_
        rintro n_ r28 w26 ⟨k, rfl, hH27, hk, he, e24_0, e24_1, e24_2, e24_3, e24_5, e24_26⟩
        refine wp_seq_k fun K29 hK29 => ?_
        refine wp_seq_k fun K30 hK30 => ?_
        refine c_region ?_
        refine s_op (o_move (v := (.int .i64 (k : Int))) e24_5 ?_)
        refine s_op (o_fieldAddr (k := 2) (fun _ => by kernel_rfl) e24_2 ?_)
        refine s_op (o_load1 (v := v_la) Tryz.underlying34 rfl rfl hH27 (seg_sub 1 rfl) (CellsAt.one rfl) ?_)
        refine s_op (o_lenS Tryz.underlying34 rfl h_la ?_)
        refine s_op (o_lss (a := (k : Int)) (b := ((la.length : Nat) : Int)) rfl rfl ?_)
        refine s_nil ?_
        refine t_norm (hK30 _ _ ?_)
        refine c_cond rfl (fun h31 => ?_) (fun h31 => ?_)
        · -- (k : Int) < ((la.length : Nat) : Int)
          refine wp_skip ?_
          refine t_norm (hK29 _ _ ?_)
          refine wp_seq_k fun K32 hK32 => ?_
          refine wp_block ?_
          refine wp_seq_k fun K33 hK33 => ?_
          refine Rest.region mixed (by kernel_rfl) ?_
          have hH34 : Has E { w26 with drawn := w26.drawn + 1 } [[Hp.one b5 (.cells #[(.int .i64 nob), (.int .i64 gsnb), v_lb] 36 (0, 0))], [Hp.one b2 (.cells #[(.int .i64 noa), (.int .i64 gsna), v_la] 36 (0, 0))], R] := Has0.drew hH27 _
          refine Rest.phaseA (fun w_ => Has E w_ [[Hp.one b5 (.cells #[(.int .i64 nob), (.int .i64 gsnb), v_lb] 36 (0, 0))], [Hp.one b2 (.cells #[(.int .i64 noa), (.int .i64 gsna), v_la] 36 (0, 0))], R]) 0 10 10 rfl (by decide) (by kernel_rfl) ?_
          refine a_op 0 rfl (by kernel_rfl) (fun w_ h_ => o_fieldAddr (k := 2) (fun _ => by kernel_rfl) e24_2 ⟨rfl, rfl⟩) ?_
          refine a_op 1 rfl (by kernel_rfl) (fun w_ h_ => o_load1 (v := v_la) Tryz.underlying34 rfl rfl h_ (seg_sub 1 rfl) (CellsAt.one rfl) ⟨rfl, rfl⟩) ?_
          refine a_op 2 rfl (by kernel_rfl) (fun w_ h_ => o_move (v := (.int .i64 (k : Int))) e24_5 ⟨rfl, rfl⟩) ?_
          obtain ⟨x38, hx39⟩ : ∃ x_, la[((k : Int)).toNat]? = some x_ := get_some (by omega)
          obtain ⟨b35, o36, hc37, ho40⟩ := ix_exF ceC_len Tryz.underlying34 ti70 h_la (by omega) hx39
          refine a_op 3 rfl (by kernel_rfl) (fun w_ h_ => ho40 rfl rfl ⟨rfl, rfl⟩) ?_
          refine a_op 4 rfl (by kernel_rfl) (fun w_ h_ => o_loadN (cs := [(S x38.1), (S x38.2)]) Tryz.underlying70 rfl ti70 rfl h_ (seg_sub 2 rfl) hc37 ⟨rfl, rfl⟩) ?_
          refine a_op 5 rfl (by kernel_rfl) (fun w_ h_ => o_fieldAddr (k := 2) (fun _ => by kernel_rfl) e24_3 ⟨rfl, rfl⟩) ?_
          refine a_op 6 rfl (by kernel_rfl) (fun w_ h_ => o_load1 (v := v_lb) Tryz.underlying34 rfl rfl h_ (seg_sub 0 rfl) (CellsAt.one rfl) ⟨rfl, rfl⟩) ?_
          refine a_op 7 rfl (by kernel_rfl) (fun w_ h_ => o_move (v := (.int .i64 (k : Int))) e24_5 ⟨rfl, rfl⟩) ?_
          obtain ⟨x44, hx45⟩ : ∃ x_, lb[((k : Int)).toNat]? = some x_ := get_some (by omega)
          obtain ⟨b41, o42, hc43, ho46⟩ := ix_exF ceC_len Tryz.underlying34 ti70 h_lb (by omega) hx45
          refine a_op 8 rfl (by kernel_rfl) (fun w_ h_ => ho46 rfl rfl ⟨rfl, rfl⟩) ?_
          refine a_op 9 rfl (by kernel_rfl) (fun w_ h_ => o_loadN (cs := [(S x44.1), (S x44.2)]) Tryz.underlying70 rfl ti70 rfl h_ (seg_sub 2 rfl) hc43 ⟨rfl, rfl⟩) ?_
          refine a_done (by kernel_rfl) hH34 ?_
          refine r_op 10 rfl (by kernel_rfl) (o_neq70 x38.1 x38.2 x44.1 x44.2 rfl rfl ?_)
          refine Rest.done (by kernel_rfl) ?_
          refine t_norm (hK33 _ _ ?_)
          refine c_condb rfl (fun h47 => ?_) (fun h47 => ?_)
          · -- !(eqv70 x38.1 x38.2 x44.1 x44.2)
            have h47_n : (eqv70 x38.1 x38.2 x44.1 x44.2) = false := by simpa using h47
            refine wp_seq_k fun K48 hK48 => ?_
            refine c_region ?_
            refine s_op (o_assign (v := (.bool false)) rfl ?_)
            refine s_nil ?_
            refine t_norm (hK48 _ _ ?_)
            refine wp_ret ?_
            refine b_ret (t_ret (t_ret (b_ret (t_ret (c_ret1 Tryz.results25  (v := (.bool false)) rfl ?_)))))
            have q49 : (decide (noa = nob ∧ gsna = gsnb ∧ la = lb)) = false := by exact (decide_eq_false (fun g_ => same_not hx39 hx45 (fun e_ => by subst e_; exact absurd ((eqv70_iff _ _ _ _).2 ⟨rfl, rfl⟩) (by simpa using h47)) g_.2.2))
            have hH50 : Has E { w26 with drawn := w26.drawn + 1 } [R] := (hH34.front 2 rfl).first 1 rfl
            exact ⟨by rw [q49], hH50⟩
          · -- not: !(eqv70 x38.1 x38.2 x44.1 x44.2)
            have h47_n : (eqv70 x38.1 x38.2 x44.1 x44.2) = true := by simpa using h47
            refine wp_skip ?_
            refine b_norm ?_
            refine t_norm (hK32 _ _ ?_)
            refine c_region ?_
            refine s_op (o_move (v := (.int .i64 (k : Int))) e24_5 ?_)
            refine s_op (o_add (a := (k : Int)) (b := 1) rfl rfl (w64 (by omega) (by omega)) ?_)
            refine s_op (o_assign (v := (.int .i64 ((k : Int) + 1))) rfl ?_)
            refine s_nil ?_
            refine t_norm ⟨la.length - (k + 1), _, rfl, ?_, ?_⟩
            · omega
            · exact ⟨(k + 1), rfl, hH34, (by omega), (same_next he (show la[k]? = some _ from hx39) (show lb[k]? = some _ from hx45) (by have h_ := h47; have e_ := (eqv70_iff _ _ _ _).1 (by simpa using h_); exact Prod.ext e_.1 e_.2)), e24_0, e24_1, e24_2, e24_3, rfl, e24_26⟩
        · -- not: (k : Int) < ((la.length : Nat) : Int)
          refine wp_exit ?_
          refine t_exit (t_exit (x_in (?_)))
          refine t_norm (hK22 _ _ ?_)
          refine wp_seq_k fun K51 hK51 => ?_
          refine c_region ?_
          refine s_op (o_assign (v := (.bool true)) rfl ?_)
          refine s_nil ?_
          refine t_norm (hK51 _ _ ?_)
          refine wp_ret ?_
          refine c_ret1 Tryz.results25  (v := (.bool true)) rfl ?_
          have q52 : (decide (noa = nob ∧ gsna = gsnb ∧ la = lb)) = true := by exact (decide_eq_true ⟨by omega, by omega, same_all he (by omega) (by omega)⟩)
          have hH53 : Has E w26 [R] := (hH27.front 2 rfl).first 1 rfl
          exact ⟨by rw [q52], hH53⟩
end Go.Q
