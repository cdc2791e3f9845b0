/-
  Parts of a walk: what functions of the program compute, each told by a theorem (Qvp9, Qvp10, Qvt2, Qvt3, Qvt4, QY, QYS, QDevA, QAreaA, QvSh4, Qvt5, Qvt6, Qvt8, Qvt9, QTwA, Qvt11, QTw4, QTw6, QTw7, Qvt15).
-/
import Derived.Test.YtcjjknilhceeeaaGreatDoorB3
import Derived.ChangeArms
import Derived.WideShapes
import Derived.DataElems
import Derived.SizedLaws
import Derived.Shelf.Strings.Trim
set_option linter.unusedVariables false
set_option linter.unusedSimpArgs false
set_option linter.unnecessarySimpa false
namespace Go.Q
open Go.Proofs
set_option linter.unusedVariables false
set_option maxRecDepth 100000
attribute [local irreducible] wpList OK Code.wp
set_option maxHeartbeats 4000000 in
theorem short_c {E w : World} {R : List Hp} {s : Bs}  (hH : Has E w [R]) (hl : s.length ≤ 255) :
    Calls Tryz.prog 122 #[(S s)] w fun e w' => e = .returned (S (shortB s)) ∧ Has E w' [R] := by
  refine c_enter (args := [(S s)]) Tryz.func122 rfl Tryz.ntmps122 (by simp) ?_
  refine wp_seq_k fun K1 hK1 => ?_
  refine c_region ?_
  refine s_op (o_assign (v := (S ([] : List UInt8))) rfl ?_)
  refine s_nil ?_
  refine t_norm (hK1 _ _ ?_)
  refine wp_seq_k fun K2 hK2 => ?_
  refine c_region ?_
  refine s_op (o_move (v := (S s)) rfl ?_)
  refine s_op (o_slen Tryz.underlying9 rfl ?_)
  refine s_op (o_buildSlice (ps := #[(0, (.int .i64 (s.length : Int)))]) (cells := #[(.int .i64 (s.length : Int))]) Tryz.underlying40 ti3 (by decide) (parts1 rfl) (by kernel_rfl) hH fun b3 w4 hH5 => ?_)
  refine s_op (o_callf (vs := #[(.int .i64 1), (.slice (some ⟨b3, 0, none⟩) 1 1)]) ca121 rfl (args2 rfl rfl) (put_c hH5.all 1 (l := [(s.length : Int)]) ((sl_lit (f := iV) (l := [(s.length : Int)]) rfl rfl (by simp)).mono (seg_sub 0 rfl)) (by simp)) ?_)
  rintro _ w8 ⟨rfl, hX6⟩
  refine ⟨_, rfl, ?_⟩
  have hH7 := hX6.of_all
  refine s_op (o_move (v := (S s)) rfl ?_)
  refine s_op (o_sadd rfl rfl (by rw [put1 (by omega), beFrom_length]; omega) ?_)
  refine s_op (o_assign (v := (S ((putS 1 [(s.length : Int)]) ++ s))) rfl ?_)
  refine s_nil ?_
  refine t_norm (hK2 _ _ ?_)
  refine wp_ret ?_
  refine c_ret1 Tryz.results122  (v := (S ((putS 1 [(s.length : Int)]) ++ s))) rfl ?_
  have q9 : (shortB s) = (putS 1 [(s.length : Int)]) ++ s := by unfold shortB; rw [put1 (by omega)]
  have hH10 : Has E w8 [R] := (hH7.front 1 rfl).first 1 rfl
  exact ⟨by rw [q9], hH10⟩
set_option maxHeartbeats 4000000 in
theorem plaid_c {E w : World} {R : List Hp} {no : Int} {gsn : Int} {v_l : Value} {l : List Cel}  (hH : Has E w [R]) (h_l : Sl R 2 v_l l.length (l.flatMap ceC)) (hg : CellsAt R 1 0 nibV) :
    Calls Tryz.prog 96 #[(.agg #[(.int .i64 no), (.int .i64 gsn), v_l])] w fun e w' => e = .returned (S (laidP no gsn l)) ∧ Has E w' [R] := by
  have hn_ := h_l.le
  refine c_enter (args := [(.agg #[(.int .i64 no), (.int .i64 gsn), v_l])]) Tryz.func96 rfl Tryz.ntmps96 (by simp) ?_
  refine wp_seq_k fun K1 hK1 => ?_
  refine c_region ?_
  refine s_op (o_box (cs := #[(.int .i64 no), (.int .i64 gsn), v_l]) rfl rfl hH fun b2 w3 hH4 => ?_)
  refine s_op (o_assign (v := (S ([] : List UInt8))) rfl ?_)
  refine s_nil ?_
  refine t_norm (hK1 _ _ ?_)
  refine wp_seq_k fun K5 hK5 => ?_
  refine wp_seq_k fun K6 hK6 => ?_
  refine c_region ?_
  refine s_op (o_loadN (cs := [(.int .i64 no), (.int .i64 gsn), v_l]) Tryz.underlying36 rfl ti36 rfl hH4 (seg_sub 0 rfl) (CellsAt.one rfl) ?_)
  refine s_op (o_callf (vs := #[(.agg #[(.int .i64 no), (.int .i64 gsn), v_l])]) ca78 rfl (args1 rfl) (pright_c (no := no) (gsn := gsn) (l := l) hH4.all (h_l.mono (seg_sub 1 rfl))) ?_)
  rintro _ w9 ⟨rfl, hX7⟩
  refine ⟨_, rfl, ?_⟩
  have hH8 := hX7.of_all
  refine s_op (o_not rfl ?_)
  refine s_nil ?_
  refine t_norm (hK6 _ _ ?_)
  refine c_condb rfl (fun h10 => ?_) (fun h10 => ?_)
  · -- !(pageR no gsn l)
    have h10_n : (pageR no gsn l) = false := by simpa using h10
    refine wp_seq_k fun K11 hK11 => ?_
    refine c_region ?_
    refine s_op (o_assign (v := (S ([] : List UInt8))) rfl ?_)
    refine s_nil ?_
    refine t_norm (hK11 _ _ ?_)
    refine wp_ret ?_
    refine t_ret (c_ret1 Tryz.results96  (v := (S ([] : List UInt8))) rfl ?_)
    have hE_ := laidP_no (no := no) (gsn := gsn) (l := l) (by first | (simpa using h10) | (simpa using h10_n))
    have q12 : (laidP no gsn l) = ([] : List UInt8) := by exact hE_
    have hH13 : Has E w9 [R] := (hH8.front 1 rfl).first 1 rfl
    exact ⟨by rw [q12], hH13⟩
  · -- not: !(pageR no gsn l)
    have h10_n : (pageR no gsn l) = true := by simpa using h10
    have hR_ : pageR no gsn l = true := by simpa using h10
    have hP_ := pageR_iff.1 hR_
    have hCe_ := cellsR_iff.1 hP_.2
    have hB_ := bodyB_len hR_
    have hu_ : putS 1 [no] ++ putS 8 [gsn] ++ putS 1 [((l.length : Nat) : Int)] = headB no gsn l.length := by rw [put1 (by omega), put8 (by omega), put1 (by omega)]; rfl
    refine wp_skip ?_
    refine t_norm (hK5 _ _ ?_)
    refine wp_seq_k fun K14 hK14 => ?_
    refine c_region ?_
    refine s_op (o_alloc (cs := #[(.pointer none), (.slice none 0 0)]) ti145 rfl hH8 fun b15 w16 hH17 => ?_)
    refine s_nil ?_
    refine t_norm (hK14 _ _ ?_)
    refine wp_seq_k fun K18 hK18 => ?_
    refine c_flow4 [[Hp.one b15 (.cells #[(.pointer none), (.slice none 0 0)] 145 (0, 0))], [Hp.one b2 (.cells #[(.int .i64 no), (.int .i64 gsn), v_l] 36 (0, 0))], R] (fun i_ => match i_ with | _ => []) (fun i_ v_ h_ m_ => match i_ with | 0 => v_ = (.pointer (some ⟨b2, 0, none⟩)) ∧ h_ = [] | 1 => v_ = (.int .i64 no) ∧ h_ = [] | 2 => ∃ (b19 : Nat), v_ = (.slice (some ⟨b19, 0, none⟩) 1 1) ∧ h_ = [Hp.one b19 (.cells #[(.int .i64 no)] 3 (0, 0))] | 3 => v_ = (S (putS 1 [no])) ∧ h_ = [] | 4 => v_ = (.pointer (some ⟨b2, 1, none⟩)) ∧ h_ = [] | 5 => v_ = (.int .i64 gsn) ∧ h_ = [] | 6 => ∃ (b25 : Nat), v_ = (.slice (some ⟨b25, 0, none⟩) 1 1) ∧ h_ = [Hp.one b25 (.cells #[(.int .i64 gsn)] 3 (0, 0))] | 7 => v_ = (S (putS 8 [gsn])) ∧ h_ = [] | 8 => v_ = (S ((putS 1 [no]) ++ (putS 8 [gsn]))) ∧ h_ = [] | 9 => v_ = (.pointer (some ⟨b2, 2, none⟩)) ∧ h_ = [] | 10 => v_ = v_l ∧ h_ = [] | 11 => v_ = (.int .i64 ((l.length : Nat) : Int)) ∧ h_ = [] | 12 => ∃ (b31 : Nat), v_ = (.slice (some ⟨b31, 0, none⟩) 1 1) ∧ h_ = [Hp.one b31 (.cells #[(.int .i64 ((l.length : Nat) : Int))] 3 (0, 0))] | 13 => v_ = (S (putS 1 [((l.length : Nat) : Int)])) ∧ h_ = [] | _ => True) mixed 14 (by kernel_rfl) (by decide) (by kernel_rfl) (flow_has (cs := []) hH17 rfl) ?_ ?_
    · intro i_ o_ him_ ho_ r' w' G hs_ ht
      match i_, ho_, him_ with
      | 0, ho_, him_ =>
        obtain rfl := Option.some.inj ho_
        have e1 : r' 1 = (.pointer (some ⟨b2, 0, none⟩)) := ht.was 1 (by kernel_rfl)
        have hG := ht.has.drop
        refine GOK.free rfl ?_
        refine o_fieldAddr (k := 0) (fun _ => by kernel_rfl) e1 ?_
        exact ⟨_, ⟨rfl, rfl⟩, hG⟩
      | 1, ho_, him_ =>
        obtain rfl := Option.some.inj ho_
        obtain ⟨e9, eh0⟩ := (ht.done 0 _ rfl rfl).1
        have hG := ht.has.drop
        refine GOK.free rfl ?_
        refine o_load1 (v := (.int .i64 no)) Tryz.underlying3 rfl e9 hG (ht.fr [Hp.one b2 (.cells #[(.int .i64 no), (.int .i64 gsn), v_l] 36 (0, 0))] (by simp)) (CellsAt.one rfl) ?_
        exact ⟨_, ⟨rfl, rfl⟩, hG⟩
      | 2, ho_, him_ =>
        obtain rfl := Option.some.inj ho_
        obtain ⟨e10, eh1⟩ := (ht.done 1 _ rfl rfl).1
        have hG := ht.has.drop
        refine GOK.free rfl ?_
        refine o_buildSlice (ps := #[(0, (.int .i64 no))]) (cells := #[(.int .i64 no)]) Tryz.underlying40 ti3 (by decide) (parts1 e10) (by kernel_rfl) hG fun b19 w20 hH21 => ?_
        exact ⟨_, ⟨b19, rfl, rfl⟩, hH21⟩
      | 3, ho_, him_ =>
        obtain rfl := Option.some.inj ho_
        obtain ⟨b19, e11, eh2⟩ := (ht.done 2 _ rfl rfl).1
        have hG := ht.has.drop
        refine GOK.free rfl ?_
        refine o_callf (vs := #[(.int .i64 1), (.slice (some ⟨b19, 0, none⟩) 1 1)]) ca121 rfl (args2 rfl e11) (put_c hG.all 1 (l := [no]) ((sl_lit (f := iV) (l := [no]) rfl rfl (by simp)).mono (eh2 ▸ (ht.done 2 _ rfl rfl).2)) (by simp)) ?_
        rintro _ w24 ⟨rfl, hX22⟩
        refine ⟨_, rfl, ?_⟩
        have hH23 := hX22.of_all
        exact ⟨_, ⟨rfl, rfl⟩, hH23⟩
      | 4, ho_, him_ =>
        obtain rfl := Option.some.inj ho_
        have e1 : r' 1 = (.pointer (some ⟨b2, 0, none⟩)) := ht.was 1 (by kernel_rfl)
        have hG := ht.has.drop
        refine GOK.free rfl ?_
        refine o_fieldAddr (k := 1) (fun _ => by kernel_rfl) e1 ?_
        exact ⟨_, ⟨rfl, rfl⟩, hG⟩
      | 5, ho_, him_ =>
        obtain rfl := Option.some.inj ho_
        obtain ⟨e13, eh4⟩ := (ht.done 4 _ rfl rfl).1
        have hG := ht.has.drop
        refine GOK.free rfl ?_
        refine o_load1 (v := (.int .i64 gsn)) Tryz.underlying3 rfl e13 hG (ht.fr [Hp.one b2 (.cells #[(.int .i64 no), (.int .i64 gsn), v_l] 36 (0, 0))] (by simp)) (CellsAt.one rfl) ?_
        exact ⟨_, ⟨rfl, rfl⟩, hG⟩
      | 6, ho_, him_ =>
        obtain rfl := Option.some.inj ho_
        obtain ⟨e14, eh5⟩ := (ht.done 5 _ rfl rfl).1
        have hG := ht.has.drop
        refine GOK.free rfl ?_
        refine o_buildSlice (ps := #[(0, (.int .i64 gsn))]) (cells := #[(.int .i64 gsn)]) Tryz.underlying40 ti3 (by decide) (parts1 e14) (by kernel_rfl) hG fun b25 w26 hH27 => ?_
        exact ⟨_, ⟨b25, rfl, rfl⟩, hH27⟩
      | 7, ho_, him_ =>
        obtain rfl := Option.some.inj ho_
        obtain ⟨b19, e11, eh2⟩ := (ht.done 2 _ rfl rfl).1
        obtain ⟨b25, e15, eh6⟩ := (ht.done 6 _ rfl rfl).1
        have hG := ht.has.drop
        refine GOK.free rfl ?_
        refine o_callf (vs := #[(.int .i64 8), (.slice (some ⟨b25, 0, none⟩) 1 1)]) ca121 rfl (args2 rfl e15) (put_c hG.all 8 (l := [gsn]) ((sl_lit (f := iV) (l := [gsn]) rfl rfl (by simp)).mono (eh6 ▸ (ht.done 6 _ rfl rfl).2)) (by simp)) ?_
        rintro _ w30 ⟨rfl, hX28⟩
        refine ⟨_, rfl, ?_⟩
        have hH29 := hX28.of_all
        exact ⟨_, ⟨rfl, rfl⟩, hH29⟩
      | 8, ho_, him_ =>
        obtain rfl := Option.some.inj ho_
        obtain ⟨b19, e11, eh2⟩ := (ht.done 2 _ rfl rfl).1
        obtain ⟨e12, eh3⟩ := (ht.done 3 _ rfl rfl).1
        obtain ⟨b25, e15, eh6⟩ := (ht.done 6 _ rfl rfl).1
        obtain ⟨e16, eh7⟩ := (ht.done 7 _ rfl rfl).1
        have hG := ht.has.drop
        refine GOK.free rfl ?_
        refine o_sadd e12 e16 (by first | (rw [put1 (by omega), put8 (by omega)]; simp only [beFrom_length, List.length_append]; omega) | (rw [put1 (by omega), put8 (by omega), put1 (by omega)]; simp only [beFrom_length, List.length_append]; omega) | (simp only [List.length_append, shortB_len]; omega)) ?_
        exact ⟨_, ⟨rfl, rfl⟩, hG⟩
      | 9, ho_, him_ =>
        obtain rfl := Option.some.inj ho_
        have e1 : r' 1 = (.pointer (some ⟨b2, 0, none⟩)) := ht.was 1 (by kernel_rfl)
        have hG := ht.has.drop
        refine GOK.free rfl ?_
        refine o_fieldAddr (k := 2) (fun _ => by kernel_rfl) e1 ?_
        exact ⟨_, ⟨rfl, rfl⟩, hG⟩
      | 10, ho_, him_ =>
        obtain rfl := Option.some.inj ho_
        obtain ⟨e18, eh9⟩ := (ht.done 9 _ rfl rfl).1
        have hG := ht.has.drop
        refine GOK.free rfl ?_
        refine o_load1 (v := v_l) Tryz.underlying34 rfl e18 hG (ht.fr [Hp.one b2 (.cells #[(.int .i64 no), (.int .i64 gsn), v_l] 36 (0, 0))] (by simp)) (CellsAt.one rfl) ?_
        exact ⟨_, ⟨rfl, rfl⟩, hG⟩
      | 11, ho_, him_ =>
        obtain rfl := Option.some.inj ho_
        obtain ⟨e19, eh10⟩ := (ht.done 10 _ rfl rfl).1
        have hG := ht.has.drop
        refine GOK.free rfl ?_
        refine o_lenS Tryz.underlying34 e19 h_l ?_
        exact ⟨_, ⟨rfl, rfl⟩, hG⟩
      | 12, ho_, him_ =>
        obtain rfl := Option.some.inj ho_
        obtain ⟨e20, eh11⟩ := (ht.done 11 _ rfl rfl).1
        have hG := ht.has.drop
        refine GOK.free rfl ?_
        refine o_buildSlice (ps := #[(0, (.int .i64 ((l.length : Nat) : Int)))]) (cells := #[(.int .i64 ((l.length : Nat) : Int))]) Tryz.underlying40 ti3 (by decide) (parts1 e20) (by kernel_rfl) hG fun b31 w32 hH33 => ?_
        exact ⟨_, ⟨b31, rfl, rfl⟩, hH33⟩
      | 13, ho_, him_ =>
        obtain rfl := Option.some.inj ho_
        obtain ⟨b19, e11, eh2⟩ := (ht.done 2 _ rfl rfl).1
        obtain ⟨b25, e15, eh6⟩ := (ht.done 6 _ rfl rfl).1
        obtain ⟨b31, e21, eh12⟩ := (ht.done 12 _ rfl rfl).1
        have hG := ht.has.drop
        refine GOK.free rfl ?_
        refine o_callf (vs := #[(.int .i64 1), (.slice (some ⟨b31, 0, none⟩) 1 1)]) ca121 rfl (args2 rfl e21) (put_c hG.all 1 (l := [((l.length : Nat) : Int)]) ((sl_lit (f := iV) (l := [((l.length : Nat) : Int)]) rfl rfl (by simp)).mono (eh12 ▸ (ht.done 12 _ rfl rfl).2)) (by simp)) ?_
        rintro _ w36 ⟨rfl, hX34⟩
        refine ⟨_, rfl, ?_⟩
        have hH35 := hX34.of_all
        exact ⟨_, ⟨rfl, rfl⟩, hH35⟩
      | i_ + 14, ho_, him_ => exact absurd him_ (by omega)
    · intro vs37 hs38 w39 hT40 hC_ hH41
      obtain ⟨e0_, eh0_⟩ := hT40 0 _ (by decide) rfl
      obtain ⟨e1_, eh1_⟩ := hT40 1 _ (by decide) rfl
      obtain ⟨b19, e2_, eh2_⟩ := hT40 2 _ (by decide) rfl
      obtain ⟨e3_, eh3_⟩ := hT40 3 _ (by decide) rfl
      obtain ⟨e4_, eh4_⟩ := hT40 4 _ (by decide) rfl
      obtain ⟨e5_, eh5_⟩ := hT40 5 _ (by decide) rfl
      obtain ⟨b25, e6_, eh6_⟩ := hT40 6 _ (by decide) rfl
      obtain ⟨e7_, eh7_⟩ := hT40 7 _ (by decide) rfl
      obtain ⟨e8_, eh8_⟩ := hT40 8 _ (by decide) rfl
      obtain ⟨e9_, eh9_⟩ := hT40 9 _ (by decide) rfl
      obtain ⟨e10_, eh10_⟩ := hT40 10 _ (by decide) rfl
      obtain ⟨e11_, eh11_⟩ := hT40 11 _ (by decide) rfl
      obtain ⟨b31, e12_, eh12_⟩ := hT40 12 _ (by decide) rfl
      obtain ⟨e13_, eh13_⟩ := hT40 13 _ (by decide) rfl
      have hH42 : Has E w39 ([[Hp.one b15 (.cells #[(.pointer none), (.slice none 0 0)] 145 (0, 0))], [Hp.one b2 (.cells #[(.int .i64 no), (.int .i64 gsn), v_l] 36 (0, 0))], R] ++ [[Hp.one b19 (.cells #[(.int .i64 no)] 3 (0, 0))], [Hp.one b25 (.cells #[(.int .i64 gsn)] 3 (0, 0))], [Hp.one b31 (.cells #[(.int .i64 ((l.length : Nat) : Int))] 3 (0, 0))]]) := flow_back (cs := [[Hp.one b19 (.cells #[(.int .i64 no)] 3 (0, 0))], [Hp.one b25 (.cells #[(.int .i64 gsn)] 3 (0, 0))], [Hp.one b31 (.cells #[(.int .i64 ((l.length : Nat) : Int))] 3 (0, 0))]]) hH41 (by show (hs38 0 ++ (hs38 1 ++ (hs38 2 ++ (hs38 3 ++ (hs38 4 ++ (hs38 5 ++ (hs38 6 ++ (hs38 7 ++ (hs38 8 ++ (hs38 9 ++ (hs38 10 ++ (hs38 11 ++ (hs38 12 ++ (hs38 13 ++ (hs38 14 ++ (hs38 15 ++ [])))))))))))))))) = _; rw [eh0_, eh1_, eh2_, eh3_, eh4_, eh5_, eh6_, eh7_, eh8_, eh9_, eh10_, eh11_, eh12_, eh13_, hC_ 14 (by decide) (by decide), hC_ 15 (by decide) (by decide)]; rfl)
      generalize hr44 : puts vs37 _ 0 _ = r43
      have e45_0 : r43 0 = (.agg #[(.int .i64 no), (.int .i64 gsn), v_l]) := by rw [← hr44]; exact rfl
      have e45_1 : r43 1 = (.pointer (some ⟨b2, 0, none⟩)) := by rw [← hr44]; exact rfl
      have e45_2 : r43 2 = (S ([] : List UInt8)) := by rw [← hr44]; exact rfl
      have e45_3 : r43 3 = (.pointer (some ⟨b15, 0, none⟩)) := by rw [← hr44]; exact rfl
      have e45_8 : r43 8 = (.bool (!(pageR no gsn l))) := by rw [← hr44]; exact rfl
      have e45_17 : r43 17 = (S ((putS 1 [no]) ++ (putS 8 [gsn]))) := by rw [← hr44]; exact e8_
      have e45_22 : r43 22 = (S (putS 1 [((l.length : Nat) : Int)])) := by rw [← hr44]; exact e13_
      refine s_op (o_sadd e45_17 e45_22 (by first | (rw [put1 (by omega), put8 (by omega)]; simp only [beFrom_length, List.length_append]; omega) | (rw [put1 (by omega), put8 (by omega), put1 (by omega)]; simp only [beFrom_length, List.length_append]; omega) | (simp only [List.length_append, shortB_len]; omega)) ?_)
      refine s_op (o_callf (vs := #[(.pointer (some ⟨b15, 0, none⟩)), (S (((putS 1 [no]) ++ (putS 8 [gsn])) ++ (putS 1 [((l.length : Nat) : Int)])))]) ca103 rfl (args2 e45_3 rfl) (bws hH42.all1 (Bld.new b15) (((putS 1 [no]) ++ (putS 8 [gsn])) ++ (putS 1 [((l.length : Nat) : Int)])) (by first | (rw [hu_, headB_len]; simp; done) | (rw [hu_, headB_len]; simp only [List.length_nil]; omega) | (simp only [List.length_append, shortB_len]; omega))) ?_)
      rintro _ w50 ⟨sg46, rfl, hB47, hX48⟩
      refine ⟨_, rfl, ?_⟩
      have hH49 : Has E w50 [sg46, [Hp.one b2 (.cells #[(.int .i64 no), (.int .i64 gsn), v_l] 36 (0, 0))], R, [Hp.one b19 (.cells #[(.int .i64 no)] 3 (0, 0))], [Hp.one b25 (.cells #[(.int .i64 gsn)] 3 (0, 0))], [Hp.one b31 (.cells #[(.int .i64 ((l.length : Nat) : Int))] 3 (0, 0))]] := hX48.of_all1
      refine s_nil ?_
      refine t_norm (hK18 _ _ ?_)
      refine wp_seq_k fun K51 hK51 => ?_
      refine wp_seq_k fun K52 hK52 => ?_
      refine c_region ?_
      refine s_op (o_fieldAddr (k := 2) (fun _ => by kernel_rfl) e45_1 ?_)
      refine s_op (o_load1 (v := v_l) Tryz.underlying34 rfl rfl hH49 (seg_sub 1 rfl) (CellsAt.one rfl) ?_)
      refine s_op (o_lenS Tryz.underlying34 rfl h_l ?_)
      refine s_op (o_move (v := (.int .i64 0)) rfl ?_)
      refine s_nil ?_
      refine t_norm (hK52 _ _ ?_)
      refine wp_block ?_
      let I54 : Nat → (Nat → Value) → World → Prop := fun n__ r__ w__ => ∃ (k : Nat) (sgB : List Hp) (acc : Bs), n__ = l.length - k ∧ Has E w__ [sgB, [Hp.one b2 (.cells #[(.int .i64 no), (.int .i64 gsn), v_l] 36 (0, 0))], R, [Hp.one b19 (.cells #[(.int .i64 no)] 3 (0, 0))], [Hp.one b25 (.cells #[(.int .i64 gsn)] 3 (0, 0))], [Hp.one b31 (.cells #[(.int .i64 ((l.length : Nat) : Int))] 3 (0, 0))]] ∧ (k ≤ l.length) ∧ (Bld b15 acc sgB) ∧ (acc = headB no gsn l.length ++ (l.take k).flatMap cellB) ∧ (acc.length ≤ 10 + 26 * k) ∧ r__ 0 = (.agg #[(.int .i64 no), (.int .i64 gsn), v_l]) ∧ r__ 1 = (.pointer (some ⟨b2, 0, none⟩)) ∧ r__ 2 = (S ([] : List UInt8)) ∧ r__ 3 = (.pointer (some ⟨b15, 0, none⟩)) ∧ r__ 8 = (.bool (!(pageR no gsn l))) ∧ r__ 26 = v_l ∧ r__ 27 = (.int .i64 ((l.length : Nat) : Int)) ∧ r__ 28 = (.int .i64 (k : Int))
      refine c_loop I54 _ ⟨0, sg46, (([] : Bs) ++ (((putS 1 [no]) ++ (putS 8 [gsn])) ++ (putS 1 [((l.length : Nat) : Int)]))), rfl, hH49, Nat.zero_le _, hB47, (by rw [List.nil_append, hu_]; simp), (by rw [List.nil_append, hu_, headB_len]; omega), e45_0, e45_1, e45_2, e45_3, e45_8, rfl, rfl, rfl⟩ ?_
      rintro n_ r57 w55 ⟨k, sgB, acc, rfl, hH56, hk, hB, hacc, hal, e53_0, e53_1, e53_2, e53_3, e53_8, e53_26, e53_27, e53_28⟩
      refine wp_seq_k fun K58 hK58 => ?_
      refine c_region ?_
      refine s_op (o_lss (a := (k : Int)) (b := ((l.length : Nat) : Int)) e53_28 e53_27 ?_)
      refine s_nil ?_
      refine t_norm (hK58 _ _ ?_)
      refine wp_seq_k fun K59 hK59 => ?_
      refine c_cond rfl (fun h60 => ?_) (fun h60 => ?_)
      · -- (k : Int) < ((l.length : Nat) : Int)
        refine wp_skip ?_
        refine t_norm (hK59 _ _ ?_)
        refine wp_seq_k fun K61 hK61 => ?_
        refine wp_block ?_
        refine wp_seq_k fun K62 hK62 => ?_
        refine c_region ?_
        obtain ⟨x66, hx67⟩ : ∃ x_, l[((k : Int)).toNat]? = some x_ := get_some (by omega)
        refine s_op (o_indexF ceC_len Tryz.underlying34 ti70 e53_26 h_l rfl e53_28 (by omega) hx67 fun b63 o64 hc65 => ?_)
        have hcl_ := celOk_len (hCe_.1 _ (List.mem_of_getElem? hx67))
        refine s_op (o_loadN (cs := [(S x66.1), (S x66.2)]) Tryz.underlying70 rfl ti70 rfl hH56 (seg_sub 2 rfl) hc65 ?_)
        refine s_op (o_alloc (cs := #[(S ([] : List UInt8)), (S ([] : List UInt8))]) ti70 rfl hH56 fun b68 w69 hH70 => ?_)
        refine s_eff (o_storeN (vs := [(S x66.1), (S x66.2)]) (c' := #[(S x66.1), (S x66.2)]) ti70 rfl rfl rfl rfl (by intro u hu; simp only [List.mem_cons, List.not_mem_nil, or_false] at hu; rcases hu with rfl | rfl <;> first | rfl) (by simp) (by kernel_rfl) (hH70.front 0 rfl) fun w71 hH72 => ?_)
        refine s_nil ?_
        refine t_norm (hK62 _ _ ?_)
        refine Rest.region mixed (by kernel_rfl) ?_
        have hH73 : Has E { w71 with drawn := w71.drawn + 1 } [[Hp.one b68 (.cells #[(S x66.1), (S x66.2)] 70 (0, 0))], sgB, [Hp.one b2 (.cells #[(.int .i64 no), (.int .i64 gsn), v_l] 36 (0, 0))], R, [Hp.one b19 (.cells #[(.int .i64 no)] 3 (0, 0))], [Hp.one b25 (.cells #[(.int .i64 gsn)] 3 (0, 0))], [Hp.one b31 (.cells #[(.int .i64 ((l.length : Nat) : Int))] 3 (0, 0))]] := Has0.drew hH72 _
        refine Rest.phaseA (fun w_ => Has E w_ [[Hp.one b68 (.cells #[(S x66.1), (S x66.2)] 70 (0, 0))]]) 0 5 5 rfl (by decide) (by kernel_rfl) ?_
        refine a_op 0 rfl (by kernel_rfl) (fun w_ h_ => o_fieldAddr (k := 0) (fun _ => by kernel_rfl) rfl ⟨rfl, rfl⟩) ?_
        refine a_op 1 rfl (by kernel_rfl) (fun w_ h_ => o_load1 (v := (S x66.1)) Tryz.underlying9 rfl rfl h_ (seg_sub 0 rfl) (CellsAt.one rfl) ⟨rfl, rfl⟩) ?_
        refine a_op 3 rfl (by kernel_rfl) (fun w_ h_ => o_fieldAddr (k := 1) (fun _ => by kernel_rfl) rfl ⟨rfl, rfl⟩) ?_
        refine a_op 4 rfl (by kernel_rfl) (fun w_ h_ => o_load1 (v := (S x66.2)) Tryz.underlying9 rfl rfl h_ (seg_sub 0 rfl) (CellsAt.one rfl) ⟨rfl, rfl⟩) ?_
        have hH74 : Has E { w71 with drawn := w71.drawn + 1 } [[Hp.one b68 (.cells #[(S x66.1), (S x66.2)] 70 (0, 0))]] := hH73.first 1 rfl
        refine a_w 2 rfl (by kernel_rfl) hH74 (o_callf (vs := #[(S x66.1)]) ca122 rfl (args1 rfl) (short_c (s := x66.1) hH73.all (by first | omega | (simp only []; omega) | (simp; done) | (simp; omega))) ?_)
        rintro _ w77 ⟨rfl, hX75⟩
        refine ⟨_, rfl, ?_⟩
        have hH76 := hX75.of_all
        have hH78 : Has E w77 [[Hp.one b68 (.cells #[(S x66.1), (S x66.2)] 70 (0, 0))]] := hH76.first 1 rfl
        refine a_done (by kernel_rfl) hH78 ?_
        refine r_op 5 rfl (by kernel_rfl) (o_callf (vs := #[(S x66.2)]) ca122 rfl (args1 rfl) (short_c (s := x66.2) hH76.all (by first | omega | (simp only []; omega) | (simp; done) | (simp; omega))) ?_)
        rintro _ w81 ⟨rfl, hX79⟩
        refine ⟨_, rfl, ?_⟩
        have hH80 := hX79.of_all
        refine r_op 6 rfl (by kernel_rfl) (o_sadd rfl rfl (by first | (rw [put1 (by omega), put8 (by omega)]; simp only [beFrom_length, List.length_append]; omega) | (rw [put1 (by omega), put8 (by omega), put1 (by omega)]; simp only [beFrom_length, List.length_append]; omega) | (simp only [List.length_append, shortB_len]; omega)) ?_)
        refine r_op 7 rfl (by kernel_rfl) (o_callf (vs := #[(.pointer (some ⟨b15, 0, none⟩)), (S ((shortB x66.1) ++ (shortB x66.2)))]) ca103 rfl (args2 e53_3 rfl) (bws (hH80.front 1 rfl).all1 hB ((shortB x66.1) ++ (shortB x66.2)) (by first | (rw [hu_, headB_len]; simp; done) | (rw [hu_, headB_len]; simp only [List.length_nil]; omega) | (simp only [List.length_append, shortB_len]; omega))) ?_)
        rintro _ w86 ⟨sg82, rfl, hB83, hX84⟩
        refine ⟨_, rfl, ?_⟩
        have hH85 : Has E w86 [sg82, [Hp.one b68 (.cells #[(S x66.1), (S x66.2)] 70 (0, 0))], [Hp.one b2 (.cells #[(.int .i64 no), (.int .i64 gsn), v_l] 36 (0, 0))], R, [Hp.one b19 (.cells #[(.int .i64 no)] 3 (0, 0))], [Hp.one b25 (.cells #[(.int .i64 gsn)] 3 (0, 0))], [Hp.one b31 (.cells #[(.int .i64 ((l.length : Nat) : Int))] 3 (0, 0))]] := hX84.of_all1
        refine Rest.done (by kernel_rfl) ?_
        refine b_norm ?_
        refine t_norm (hK61 _ _ ?_)
        refine c_region ?_
        refine s_op (o_add (a := (k : Int)) (b := 1) e53_28 rfl (w64 (by omega) (by omega)) ?_)
        refine s_op (o_move (v := (.int .i64 ((k : Int) + 1))) rfl ?_)
        refine s_nil ?_
        have hH87 : Has E w86 [sg82, [Hp.one b2 (.cells #[(.int .i64 no), (.int .i64 gsn), v_l] 36 (0, 0))], R, [Hp.one b19 (.cells #[(.int .i64 no)] 3 (0, 0))], [Hp.one b25 (.cells #[(.int .i64 gsn)] 3 (0, 0))], [Hp.one b31 (.cells #[(.int .i64 ((l.length : Nat) : Int))] 3 (0, 0))]] := Has.pick hH85 [0, 1, 1, 1, 1, 1] (by kernel_rfl)
        refine t_norm ⟨l.length - (k + 1), _, rfl, ?_, ?_⟩
        · omega
        · exact ⟨(k + 1), sg82, (acc ++ ((shortB x66.1) ++ (shortB x66.2))), rfl, hH87, (by omega), (hB83), (by (have h_ := cell_prog hacc (show l[k]? = some _ from hx67)); first | exact h_ | (simpa [List.append_assoc] using h_)), (by (have h1_ := celOk_len (hCe_.1 _ (List.mem_of_getElem? hx67))); simp only [List.length_append, shortB_len]; omega), e53_0, e53_1, e53_2, e53_3, e53_8, e53_26, e53_27, rfl⟩
      · -- not: (k : Int) < ((l.length : Nat) : Int)
        refine wp_exit ?_
        refine t_exit (t_exit (x_in (?_)))
        refine t_norm (hK51 _ _ ?_)
        refine wp_seq_k fun K88 hK88 => ?_
        refine c_region ?_
        refine s_op (o_callf (vs := #[(.pointer (some ⟨b15, 0, none⟩))]) ca104 rfl (args1 e53_3) (bstrK hH56.all1 hB) ?_)
        rintro _ w94 ⟨a89, p90, c91, rfl, hX92⟩
        refine ⟨_, rfl, ?_⟩
        have hH93 : Has E w94 [[Hp.one b15 (.cells #[a89, (.slice p90 acc.length c91)] 145 (0, 0))], [Hp.one b2 (.cells #[(.int .i64 no), (.int .i64 gsn), v_l] 36 (0, 0))], R, [Hp.one b19 (.cells #[(.int .i64 no)] 3 (0, 0))], [Hp.one b25 (.cells #[(.int .i64 gsn)] 3 (0, 0))], [Hp.one b31 (.cells #[(.int .i64 ((l.length : Nat) : Int))] 3 (0, 0))]] := hX92.of_all1
        refine s_op (o_callf (vs := #[(.pointer (some ⟨b15, 0, none⟩))]) ca120 rfl (args1 e53_3) (blenb hH93.all1) ?_)
        rintro _ w97 ⟨rfl, hX95⟩
        refine ⟨_, rfl, ?_⟩
        have hH96 : Has E w97 [[Hp.one b15 (.cells #[a89, (.slice p90 acc.length c91)] 145 (0, 0))], [Hp.one b2 (.cells #[(.int .i64 no), (.int .i64 gsn), v_l] 36 (0, 0))], R, [Hp.one b19 (.cells #[(.int .i64 no)] 3 (0, 0))], [Hp.one b25 (.cells #[(.int .i64 gsn)] 3 (0, 0))], [Hp.one b31 (.cells #[(.int .i64 ((l.length : Nat) : Int))] 3 (0, 0))]] := hX95.of_all1
        refine s_op (o_sub (a := 252) (b := (acc.length : Int)) rfl rfl (w64 (by omega) (by omega)) ?_)
        obtain ⟨n98, hn98⟩ : ∃ n_ : Nat, 252 - (acc.length : Int) = (n_ : Int) := ⟨(252 - (acc.length : Int)).toNat, by omega⟩
        refine s_op (o_callf (vs := #[(S [0]), (.int .i64 (252 - (acc.length : Int)))]) ca95 rfl (args2 rfl rfl) ((by rw [hn98]; exact repeat_c hH96.all n98 (by omega))) ?_)
        rintro _ w101 ⟨rfl, hX99⟩
        refine ⟨_, rfl, ?_⟩
        have hH100 := hX99.of_all
        refine s_op (o_buildSlice (ps := #[(0, (S acc)), (1, (S (List.replicate n98 0)))]) (cells := #[(S acc), (S (List.replicate n98 0))]) Tryz.underlying102 ti9 (by decide) (parts2 rfl rfl) (by kernel_rfl) hH100 fun b102 w103 hH104 => ?_)
        refine s_op (o_callf (vs := #[(.slice (some ⟨b102, 0, none⟩) 2 2)]) ca123 rfl (args1 rfl) (seal_c hH104.all (hg.mono (seg_sub 3 rfl)) ((sl_lit (f := sV) (l := [acc, (List.replicate n98 0)]) rfl rfl (by simp)).mono (seg_sub 0 rfl)) (by simp) (by simp only [List.flatten_cons, List.flatten_nil, List.length_append, List.length_replicate, List.length_nil]; omega)) ?_)
        rintro _ w107 ⟨rfl, hX105⟩
        refine ⟨_, rfl, ?_⟩
        have hH106 := hX105.of_all
        refine s_op (o_assign (v := (S (sealS [acc, (List.replicate n98 0)].flatten))) rfl ?_)
        refine s_nil ?_
        refine t_norm (hK88 _ _ ?_)
        refine wp_ret ?_
        refine c_ret1 Tryz.results96  (v := (S (sealS [acc, (List.replicate n98 0)].flatten))) rfl ?_
        have e_ : k = l.length := by omega
        rw [e_, List.take_length] at hacc
        have hb_ : acc = bodyB no gsn l := hacc
        have hE_ : laidP no gsn l = sealS [acc, List.replicate n98 0].flatten := by unfold laidP; rw [if_pos hR_]; unfold fullB; rw [← hb_, show 252 - acc.length = n98 from by omega]; simp
        have q108 : (laidP no gsn l) = (sealS [acc, (List.replicate n98 0)].flatten) := by exact hE_
        have hH109 : Has E w107 [R] := (hH106.front 3 rfl).first 1 rfl
        exact ⟨by rw [q108], hH109⟩
set_option maxHeartbeats 4000000 in
theorem text_c {E w : World} {R : List Hp} {s : Bs}  (hH : Has E w [R]) (hs : s.length ≤ 1000000) :
    Calls Tryz.prog 107 #[(S s)] w fun e w' => e = .returned (.tuple #[(S ((textS s).1)), (S ((textS s).2.1)), (.bool ((textS s).2.2))]) ∧ Has E w' [R] := by
  have hto_ := take_one s
  refine c_enter (args := [(S s)]) Tryz.func107 rfl Tryz.ntmps107 (by simp) ?_
  refine wp_seq_k fun K1 hK1 => ?_
  refine c_region ?_
  refine s_op (o_assign (v := (S ([] : List UInt8))) rfl ?_)
  refine s_op (o_assign (v := (S ([] : List UInt8))) rfl ?_)
  refine s_op (o_assign (v := (.bool false)) rfl ?_)
  refine s_nil ?_
  refine t_norm (hK1 _ _ ?_)
  refine wp_seq_k fun K2 hK2 => ?_
  refine c_region ?_
  refine s_op (o_move (v := (S s)) rfl ?_)
  refine s_op (o_callf (vs := #[(S s), (.int .i64 1)]) ca106 rfl (args2 rfl rfl) (take_c hH.all 1 s (by omega)) ?_)
  rintro _ w5 ⟨rfl, hX3⟩
  refine ⟨_, rfl, ?_⟩
  have hH4 := hX3.of_all
  refine s_op (o_move (v := (.tuple #[(.int .i64 ((takeS s 1).1)), (S ((takeS s 1).2.1)), (.bool ((takeS s 1).2.2))])) rfl ?_)
  refine s_op (o_extract (v := (.int .i64 ((takeS s 1).1))) rfl rfl ?_)
  refine s_op (o_extract (v := (S ((takeS s 1).2.1))) rfl rfl ?_)
  refine s_op (o_extract (v := (.bool ((takeS s 1).2.2))) rfl rfl ?_)
  refine s_op (o_assign (v := (.int .i64 ((takeS s 1).1))) rfl ?_)
  refine s_op (o_assign (v := (S ((takeS s 1).2.1))) rfl ?_)
  refine s_op (o_assign (v := (.bool ((takeS s 1).2.2))) rfl ?_)
  refine s_nil ?_
  refine t_norm (hK2 _ _ ?_)
  refine wp_seq_k fun K6 hK6 => ?_
  refine wp_seq_k fun K7 hK7 => ?_
  refine c_region ?_
  refine s_op (o_move (v := (.bool ((takeS s 1).2.2))) rfl ?_)
  refine s_op (o_not rfl ?_)
  refine s_op (o_move (v := (.bool (!((takeS s 1).2.2)))) rfl ?_)
  rcases Bool.eq_false_or_eq_true (!((takeS s 1).2.2)) with h8 | h8
  · -- !((takeS s 1).2.2)
    have h8_n : ((takeS s 1).2.2) = false := by simpa using h8
    refine s_off (b' := true) 16 rfl (congrArg Value.bool h8) rfl ?_
    refine s_off (b' := true) 16 rfl (congrArg Value.bool h8) rfl ?_
    refine s_off (b' := true) 16 rfl (congrArg Value.bool h8) rfl ?_
    refine s_off (b' := true) 16 rfl (congrArg Value.bool h8) rfl ?_
    refine s_op (o_pick_t (u := (.bool true)) ((rfl : _ = _).trans (congrArg Value.bool h8)) rfl ?_)
    refine s_nil ?_
    refine t_norm (hK7 _ _ ?_)
    refine c_true rfl rfl ?_
    refine wp_seq_k fun K9 hK9 => ?_
    refine c_region ?_
    refine s_op (o_assign (v := (S ([] : List UInt8))) rfl ?_)
    refine s_op (o_assign (v := (S ([] : List UInt8))) rfl ?_)
    refine s_op (o_assign (v := (.bool false)) rfl ?_)
    refine s_nil ?_
    refine t_norm (hK9 _ _ ?_)
    refine wp_ret ?_
    refine t_ret (c_ret3 Tryz.results107  (v := (S ([] : List UInt8))) rfl (x := (S ([] : List UInt8))) rfl (y := (.bool false)) rfl ?_)
    have hE_ := text_no (s := s) (by first | exact .inl (by simpa using h8) | exact .inl (by simpa using h8_n) | exact .inr (by omega))
    have q10 : (textS s).1 = ([] : List UInt8) := by rw [hE_]
    have q11 : (textS s).2.1 = ([] : List UInt8) := by rw [hE_]
    have q12 : (textS s).2.2 = false := by rw [hE_]
    exact ⟨by rw [q10]; rw [q11]; rw [q12], hH4⟩
  · -- not: !((takeS s 1).2.2)
    have h8_n : ((takeS s 1).2.2) = true := by simpa using h8
    refine s_on 16 rfl (congrArg Value.bool h8) (o_move (v := (.int .i64 ((takeS s 1).1))) rfl ?_)
    refine s_on 16 rfl (congrArg Value.bool h8) (o_move (v := (S ((takeS s 1).2.1))) rfl ?_)
    refine s_on 16 rfl (congrArg Value.bool h8) (o_slen Tryz.underlying9 rfl ?_)
    refine s_on 16 rfl (congrArg Value.bool h8) (o_gtr (a := (takeS s 1).1) (b := (((takeS s 1).2.1).length : Int)) rfl rfl ?_)
    refine s_op (o_pick_f (u := (.bool (decide ((((takeS s 1).2.1).length : Int) < (takeS s 1).1)))) ((rfl : _ = _).trans (congrArg Value.bool h8)) rfl ?_)
    refine s_nil ?_
    refine t_norm (hK7 _ _ ?_)
    refine c_cond rfl (fun h13 => ?_) (fun h13 => ?_)
    · -- (((takeS s 1).2.1).length : Int) < (takeS s 1).1
      refine wp_seq_k fun K14 hK14 => ?_
      refine c_region ?_
      refine s_op (o_assign (v := (S ([] : List UInt8))) rfl ?_)
      refine s_op (o_assign (v := (S ([] : List UInt8))) rfl ?_)
      refine s_op (o_assign (v := (.bool false)) rfl ?_)
      refine s_nil ?_
      refine t_norm (hK14 _ _ ?_)
      refine wp_ret ?_
      refine t_ret (c_ret3 Tryz.results107  (v := (S ([] : List UInt8))) rfl (x := (S ([] : List UInt8))) rfl (y := (.bool false)) rfl ?_)
      have hE_ := text_no (s := s) (by first | exact .inl (by simpa using h8) | exact .inl (by simpa using h8_n) | exact .inl (by simpa using h13) | exact .inr (by omega))
      have q15 : (textS s).1 = ([] : List UInt8) := by rw [hE_]
      have q16 : (textS s).2.1 = ([] : List UInt8) := by rw [hE_]
      have q17 : (textS s).2.2 = false := by rw [hE_]
      exact ⟨by rw [q15]; rw [q16]; rw [q17], hH4⟩
    · -- not: (((takeS s 1).2.1).length : Int) < (takeS s 1).1
      refine wp_skip ?_
      refine t_norm (hK6 _ _ ?_)
      refine wp_seq_k fun K18 hK18 => ?_
      refine Rest.region mixed (by kernel_rfl) ?_
      have hH19 : Has E { w5 with drawn := w5.drawn + 1 } [R] := Has0.drew hH4 _
      refine Rest.phaseA (fun w_ => Has E w_ []) 0 7 7 rfl (by decide) (by kernel_rfl) ?_
      refine a_op 0 rfl (by kernel_rfl) (fun w_ h_ => o_move (v := (S ((takeS s 1).2.1))) rfl ⟨rfl, rfl⟩) ?_
      refine a_op 1 rfl (by kernel_rfl) (fun w_ h_ => o_move (v := (.int .i64 ((takeS s 1).1))) rfl ⟨rfl, rfl⟩) ?_
      refine a_op 2 rfl (by kernel_rfl) (fun w_ h_ => o_ssl_h Tryz.underlying9 rfl rfl (by omega) (by omega) ⟨rfl, rfl⟩) ?_
      refine a_op 3 rfl (by kernel_rfl) (fun w_ h_ => o_move (v := (S ((takeS s 1).2.1))) rfl ⟨rfl, rfl⟩) ?_
      refine a_op 4 rfl (by kernel_rfl) (fun w_ h_ => o_move (v := (.int .i64 ((takeS s 1).1))) rfl ⟨rfl, rfl⟩) ?_
      refine a_op 5 rfl (by kernel_rfl) (fun w_ h_ => o_ssl_l Tryz.underlying9 rfl rfl (by omega) (by omega) ⟨rfl, rfl⟩) ?_
      refine a_op 6 rfl (by kernel_rfl) (fun w_ h_ => o_assign (v := (S (((takeS s 1).2.1).take ((takeS s 1).1).toNat))) rfl ⟨rfl, rfl⟩) ?_
      have hH20 : Has E { w5 with drawn := w5.drawn + 1 } [] := hH19.first 0 rfl
      refine a_done (by kernel_rfl) hH20 ?_
      refine r_op 7 rfl (by kernel_rfl) (o_assign (v := (S (((takeS s 1).2.1).drop ((takeS s 1).1).toNat))) rfl ?_)
      refine r_op 8 rfl (by kernel_rfl) (o_assign (v := (.bool true)) rfl ?_)
      refine Rest.done (by kernel_rfl) ?_
      refine t_norm (hK18 _ _ ?_)
      refine wp_ret ?_
      refine c_ret3 Tryz.results107  (v := (S (((takeS s 1).2.1).take ((takeS s 1).1).toNat))) rfl (x := (S (((takeS s 1).2.1).drop ((takeS s 1).1).toNat))) rfl (y := (.bool true)) rfl ?_
      have hE_ := text_yes (s := s) (by first | (simpa using h8) | (simpa using h8_n) | (simpa using h13)) (by omega)
      have q21 : (textS s).1 = ((takeS s 1).2.1).take ((takeS s 1).1).toNat := by rw [hE_]
      have q22 : (textS s).2.1 = ((takeS s 1).2.1).drop ((takeS s 1).1).toNat := by rw [hE_]
      have q23 : (textS s).2.2 = true := by rw [hE_]
      exact ⟨by rw [q21]; rw [q22]; rw [q23], hH19⟩
end Go.Q
namespace Go.Q
open Go.Proofs
set_option linter.unusedVariables false
set_option maxRecDepth 100000
attribute [local irreducible] wpList OK Code.wp
set_option maxHeartbeats 4000000 in
theorem pread_c {E w : World} {R : List Hp} {s : Bs}  (hH : Has E w [R]) (hg : CellsAt R 1 0 nibV) :
    Calls Tryz.prog 66 #[(S s)] w fun e w' => ∃ (v1' : Value) (s2' : List Hp), e = .returned (.tuple #[(.agg #[(.int .i64 ((readP s).2.1)), (.int .i64 ((readP s).2.2.1)), v1']), (.bool ((readP s).1))]) ∧ (Own 70 2 v1' ((readP s).2.2.2).length (((readP s).2.2.2).flatMap ceC) s2') ∧ Has E w' [s2', R] := by
  have hr1_ := take_rest_le s 1
  have hr2_ := take_rest_le (takeS s 1).2.1 8
  have hr3_ := take_rest_le (takeS (takeS s 1).2.1 8).2.1 1
  have hto_ := take_one (takeS (takeS s 1).2.1 8).2.1
  have hto1_ := take_one s
  refine c_enter (args := [(S s)]) Tryz.func66 rfl Tryz.ntmps66 (by simp) ?_
  refine wp_seq_k fun K1 hK1 => ?_
  refine c_region ?_
  refine s_op (o_alloc (cs := #[(.int .i64 0), (.int .i64 0), (.slice none 0 0)]) ti36 rfl hH fun b2 w3 hH4 => ?_)
  refine s_op (o_assign (v := (.bool false)) rfl ?_)
  refine s_nil ?_
  refine t_norm (hK1 _ _ ?_)
  refine wp_seq_k fun K5 hK5 => ?_
  refine wp_seq_k fun K6 hK6 => ?_
  refine c_region ?_
  refine s_op (o_move (v := (S s)) rfl ?_)
  refine s_op (o_slen Tryz.underlying9 rfl ?_)
  refine s_op (o_neq (a := (s.length : Int)) (b := 256) rfl rfl ?_)
  refine s_nil ?_
  refine t_norm (hK6 _ _ ?_)
  refine c_cond rfl (fun h7 => ?_) (fun h7 => ?_)
  · -- (s.length : Int) ≠ 256
    refine wp_seq_k fun K8 hK8 => ?_
    refine c_region ?_
    refine s_op (o_sight (v := (.agg #[(.int .i64 0), (.int .i64 0), (.slice none 0 0)])) (fun _ => by kernel_rfl) ?_)
    refine s_eff (o_storeN (vs := [(.int .i64 0), (.int .i64 0), (.slice none 0 0)]) (c' := #[(.int .i64 0), (.int .i64 0), (.slice none 0 0)]) ti36 rfl rfl rfl rfl (by intro u hu; simp only [List.mem_cons, List.not_mem_nil, or_false] at hu; rcases hu with rfl | rfl | rfl <;> first | rfl) (by simp) (by kernel_rfl) (hH4.front 0 rfl) fun w9 hH10 => ?_)
    refine s_op (o_assign (v := (.bool false)) rfl ?_)
    refine s_nil ?_
    refine t_norm (hK8 _ _ ?_)
    refine wp_ret ?_
    refine t_ret (c_retC2 Tryz.results66 rfl (run_loadVarN (cs := [(.int .i64 0), (.int .i64 0), (.slice none 0 0)]) Tryz.underlying36 rfl ti36 hH10 (seg_sub 0 rfl) (CellsAt.one rfl)) (x := (.bool false)) rfl ?_)
    have hE_ := readP_no (s := s) (.inl (by omega))
    have q11 : (readP s).2.1 = 0 := by rw [hE_]
    have q12 : (readP s).2.2.1 = 0 := by rw [hE_]
    have q13 : (readP s).2.2.2 = ([] : List Cel) := by rw [hE_]
    have q14 : (readP s).1 = false := by rw [hE_]
    have hH15 : Has E w9 [[], R] := (Has.nil (hH10.front 1 rfl)).first 2 rfl
    exact ⟨_, _, by rw [q11, q12]; rw [q14], (by rw [q13]; exact (Own.nil 70 2)), hH15⟩
  · -- not: (s.length : Int) ≠ 256
    refine wp_skip ?_
    refine t_norm (hK5 _ _ ?_)
    refine wp_seq_k fun K16 hK16 => ?_
    refine c_region ?_
    refine s_op (o_alloc (cs := #[(.int .i64 0), (.int .i64 0), (.slice none 0 0)]) ti36 rfl hH4 fun b17 w18 hH19 => ?_)
    refine s_nil ?_
    refine t_norm (hK16 _ _ ?_)
    refine wp_seq_k fun K20 hK20 => ?_
    refine c_region ?_
    refine s_op (o_move (v := (S s)) rfl ?_)
    refine s_op (o_callf (vs := #[(S s), (.int .i64 1)]) ca106 rfl (args2 rfl rfl) (take_c hH19.all 1 s (by omega)) ?_)
    rintro _ w23 ⟨rfl, hX21⟩
    refine ⟨_, rfl, ?_⟩
    have hH22 := hX21.of_all
    refine s_op (o_move (v := (.tuple #[(.int .i64 ((takeS s 1).1)), (S ((takeS s 1).2.1)), (.bool ((takeS s 1).2.2))])) rfl ?_)
    refine s_op (o_extract (v := (.int .i64 ((takeS s 1).1))) rfl rfl ?_)
    refine s_op (o_extract (v := (S ((takeS s 1).2.1))) rfl rfl ?_)
    refine s_op (o_extract (v := (.bool ((takeS s 1).2.2))) rfl rfl ?_)
    refine s_op (o_assign (v := (.int .i64 ((takeS s 1).1))) rfl ?_)
    refine s_op (o_assign (v := (S ((takeS s 1).2.1))) rfl ?_)
    refine s_op (o_assign (v := (.bool ((takeS s 1).2.2))) rfl ?_)
    refine s_nil ?_
    refine t_norm (hK20 _ _ ?_)
    refine wp_seq_k fun K24 hK24 => ?_
    refine c_region ?_
    refine s_op (o_move (v := (S ((takeS s 1).2.1))) rfl ?_)
    refine s_op (o_callf (vs := #[(S ((takeS s 1).2.1)), (.int .i64 8)]) ca106 rfl (args2 rfl rfl) (take_c hH22.all 8 ((takeS s 1).2.1) (by omega)) ?_)
    rintro _ w27 ⟨rfl, hX25⟩
    refine ⟨_, rfl, ?_⟩
    have hH26 := hX25.of_all
    refine s_op (o_move (v := (.tuple #[(.int .i64 ((takeS ((takeS s 1).2.1) 8).1)), (S ((takeS ((takeS s 1).2.1) 8).2.1)), (.bool ((takeS ((takeS s 1).2.1) 8).2.2))])) rfl ?_)
    refine s_op (o_extract (v := (.int .i64 ((takeS ((takeS s 1).2.1) 8).1))) rfl rfl ?_)
    refine s_op (o_extract (v := (S ((takeS ((takeS s 1).2.1) 8).2.1))) rfl rfl ?_)
    refine s_op (o_extract (v := (.bool ((takeS ((takeS s 1).2.1) 8).2.2))) rfl rfl ?_)
    refine s_op (o_assign (v := (.int .i64 ((takeS ((takeS s 1).2.1) 8).1))) rfl ?_)
    refine s_op (o_assign (v := (S ((takeS ((takeS s 1).2.1) 8).2.1))) rfl ?_)
    refine s_op (o_assign (v := (.bool ((takeS ((takeS s 1).2.1) 8).2.2))) rfl ?_)
    refine s_nil ?_
    refine t_norm (hK24 _ _ ?_)
    refine wp_seq_k fun K28 hK28 => ?_
    refine c_region ?_
    refine s_op (o_move (v := (S ((takeS ((takeS s 1).2.1) 8).2.1))) rfl ?_)
    refine s_op (o_callf (vs := #[(S ((takeS ((takeS s 1).2.1) 8).2.1)), (.int .i64 1)]) ca106 rfl (args2 rfl rfl) (take_c hH26.all 1 ((takeS ((takeS s 1).2.1) 8).2.1) (by omega)) ?_)
    rintro _ w31 ⟨rfl, hX29⟩
    refine ⟨_, rfl, ?_⟩
    have hH30 := hX29.of_all
    refine s_op (o_move (v := (.tuple #[(.int .i64 ((takeS ((takeS ((takeS s 1).2.1) 8).2.1) 1).1)), (S ((takeS ((takeS ((takeS s 1).2.1) 8).2.1) 1).2.1)), (.bool ((takeS ((takeS ((takeS s 1).2.1) 8).2.1) 1).2.2))])) rfl ?_)
    refine s_op (o_extract (v := (.int .i64 ((takeS ((takeS ((takeS s 1).2.1) 8).2.1) 1).1))) rfl rfl ?_)
    refine s_op (o_extract (v := (S ((takeS ((takeS ((takeS s 1).2.1) 8).2.1) 1).2.1))) rfl rfl ?_)
    refine s_op (o_extract (v := (.bool ((takeS ((takeS ((takeS s 1).2.1) 8).2.1) 1).2.2))) rfl rfl ?_)
    refine s_op (o_assign (v := (.int .i64 ((takeS ((takeS ((takeS s 1).2.1) 8).2.1) 1).1))) rfl ?_)
    refine s_op (o_assign (v := (S ((takeS ((takeS ((takeS s 1).2.1) 8).2.1) 1).2.1))) rfl ?_)
    refine s_op (o_assign (v := (.bool ((takeS ((takeS ((takeS s 1).2.1) 8).2.1) 1).2.2))) rfl ?_)
    refine s_nil ?_
    refine t_norm (hK28 _ _ ?_)
    refine wp_seq_k fun K32 hK32 => ?_
    refine c_region ?_
    refine s_op (o_move (v := (.int .i64 ((takeS s 1).1))) rfl ?_)
    refine s_op (o_move (v := (.int .i64 ((takeS ((takeS s 1).2.1) 8).1))) rfl ?_)
    refine s_op (o_fieldAddr (k := 0) (fun _ => by kernel_rfl) rfl ?_)
    refine s_eff (o_store1 (c' := #[(.int .i64 ((takeS s 1).1)), (.int .i64 0), (.slice none 0 0)]) ti3 rfl rfl rfl (by simp) rfl (hH30.front 0 rfl) fun w33 hH34 => ?_)
    refine s_op (o_fieldAddr (k := 1) (fun _ => by kernel_rfl) rfl ?_)
    refine s_eff (o_store1 (c' := #[(.int .i64 ((takeS s 1).1)), (.int .i64 ((takeS ((takeS s 1).2.1) 8).1)), (.slice none 0 0)]) ti3 rfl rfl rfl (by simp) rfl (hH34.front 0 rfl) fun w35 hH36 => ?_)
    refine s_nil ?_
    refine t_norm (hK32 _ _ ?_)
    refine wp_seq_k fun K37 hK37 => ?_
    refine wp_block ?_
    let I39 : Nat → (Nat → Value) → World → Prop := fun n__ r__ w__ => ∃ (ok : Bool) (n : Int) (rest : Bs) (vo : Value) (so : List Hp) (acc : List Cel), n__ = n.toNat ∧ Has E w__ [so, [Hp.one b17 (.cells #[(.int .i64 ((takeS s 1).1)), (.int .i64 ((takeS ((takeS s 1).2.1) 8).1)), vo] 36 (0, 0))], [Hp.one b2 (.cells #[(.int .i64 0), (.int .i64 0), (.slice none 0 0)] 36 (0, 0))], R] ∧ (Own 70 2 vo acc.length (acc.flatMap ceC) so) ∧ (acc.length ≤ 8) ∧ (rest.length ≤ 256) ∧ (n ≤ 255) ∧ (goP0 s = goS ok n rest acc) ∧ r__ 0 = (S s) ∧ r__ 2 = (.pointer (some ⟨b2, 0, none⟩)) ∧ r__ 3 = (.bool false) ∧ r__ 4 = (.pointer (some ⟨b17, 0, none⟩)) ∧ r__ 5 = (.int .i64 ((takeS s 1).1)) ∧ r__ 6 = (S rest) ∧ r__ 8 = (.int .i64 ((takeS ((takeS s 1).2.1) 8).1)) ∧ r__ 9 = (.bool ok) ∧ r__ 10 = (.int .i64 n) ∧ r__ 15 = (.bool (decide ((s.length : Int) ≠ 256)))
    have hH40 : Has E w35 [[], [Hp.one b17 (.cells #[(.int .i64 ((takeS s 1).1)), (.int .i64 ((takeS ((takeS s 1).2.1) 8).1)), (.slice none 0 0)] 36 (0, 0))], [Hp.one b2 (.cells #[(.int .i64 0), (.int .i64 0), (.slice none 0 0)] 36 (0, 0))], R] := (Has.nil (((hH36.front 2 rfl).front 2 rfl).front 2 rfl)).first 4 rfl
    refine c_loop I39 _ ⟨((takeS ((takeS s 1).2.1) 8).2.2), ((takeS ((takeS ((takeS s 1).2.1) 8).2.1) 1).1), ((takeS ((takeS ((takeS s 1).2.1) 8).2.1) 1).2.1), (.slice none 0 0), [], [], rfl, hH40, Own.nil 70 2, (by simp), (by omega), (by omega), goS_start s, rfl, rfl, rfl, rfl, rfl, rfl, rfl, rfl, rfl, rfl⟩ ?_
    rintro n_ r43 w41 ⟨ok, n, rest, vo, so, acc, rfl, hH42, hoo, hal, hrl, hn, hgo, e38_0, e38_2, e38_3, e38_4, e38_5, e38_6, e38_8, e38_9, e38_10, e38_15⟩
    refine wp_seq_k fun K44 hK44 => ?_
    refine wp_seq_k fun K45 hK45 => ?_
    refine c_region ?_
    refine s_op (o_move (v := (.bool ok)) e38_9 ?_)
    refine s_op (o_move (v := (.bool ok)) rfl ?_)
    rcases Bool.eq_false_or_eq_true ok with h46 | h46
    · -- ok
      refine s_on 40 rfl (congrArg Value.bool h46) (o_move (v := (.int .i64 n)) e38_10 ?_)
      refine s_on 40 rfl (congrArg Value.bool h46) (o_gtr (a := n) (b := 0) rfl rfl ?_)
      refine s_op (o_pick_t (u := (.bool (decide (0 < n)))) ((rfl : _ = _).trans (congrArg Value.bool h46)) rfl ?_)
      refine s_op (o_move (v := (.bool (decide (0 < n)))) rfl ?_)
      by_cases h47 : 0 < n
      · -- 0 < n
        refine s_on 44 rfl (congrArg Value.bool (decide_eq_true h47)) (o_fieldAddr (k := 2) (fun _ => by kernel_rfl) e38_4 ?_)
        refine s_on 44 rfl (congrArg Value.bool (decide_eq_true h47)) (o_load1 (v := vo) Tryz.underlying34 rfl rfl hH42 (seg_sub 1 rfl) (CellsAt.one rfl) ?_)
        refine s_on 44 rfl (congrArg Value.bool (decide_eq_true h47)) (o_lenS Tryz.underlying34 rfl hoo.sl ?_)
        refine s_on 44 rfl (congrArg Value.bool (decide_eq_true h47)) (o_lss (a := ((acc.length : Nat) : Int)) (b := 8) rfl rfl ?_)
        refine s_op (o_pick_t (u := (.bool (decide (((acc.length : Nat) : Int) < 8)))) ((rfl : _ = _).trans (congrArg Value.bool (decide_eq_true h47))) rfl ?_)
        refine s_nil ?_
        refine t_norm (hK45 _ _ ?_)
        refine c_cond rfl (fun h48 => ?_) (fun h48 => ?_)
        · -- ((acc.length : Nat) : Int) < 8
          refine wp_skip ?_
          refine t_norm (hK44 _ _ ?_)
          refine wp_seq_k fun K49 hK49 => ?_
          refine wp_block ?_
          refine wp_seq_k fun K50 hK50 => ?_
          refine c_region ?_
          refine s_op (o_alloc (cs := #[(S ([] : List UInt8)), (S ([] : List UInt8))]) ti70 rfl hH42 fun b51 w52 hH53 => ?_)
          refine s_nil ?_
          refine t_norm (hK50 _ _ ?_)
          refine wp_seq_k fun K54 hK54 => ?_
          refine c_region ?_
          refine s_op (o_move (v := (S rest)) e38_6 ?_)
          refine s_op (o_callf (vs := #[(S rest)]) ca107 rfl (args1 rfl) (text_c (s := rest) hH53.all (by first | omega | (simp only []; omega) | (simp; done) | (simp; omega))) ?_)
          rintro _ w57 ⟨rfl, hX55⟩
          refine ⟨_, rfl, ?_⟩
          have hH56 := hX55.of_all
          have htl_ := textS_le rest
          refine s_op (o_move (v := (.tuple #[(S ((textS rest).1)), (S ((textS rest).2.1)), (.bool ((textS rest).2.2))])) rfl ?_)
          refine s_op (o_extract (v := (S ((textS rest).1))) rfl rfl ?_)
          refine s_op (o_extract (v := (S ((textS rest).2.1))) rfl rfl ?_)
          refine s_op (o_extract (v := (.bool ((textS rest).2.2))) rfl rfl ?_)
          refine s_op (o_fieldAddr (k := 0) (fun _ => by kernel_rfl) rfl ?_)
          refine s_eff (o_store1 (c' := #[(S ((textS rest).1)), (S ([] : List UInt8))]) ti9 rfl rfl rfl (by simp) rfl (hH56.front 0 rfl) fun w58 hH59 => ?_)
          refine s_op (o_assign (v := (S ((textS rest).2.1))) rfl ?_)
          refine s_op (o_assign (v := (.bool ((textS rest).2.2))) rfl ?_)
          refine s_nil ?_
          refine t_norm (hK54 _ _ ?_)
          refine wp_seq_k fun K60 hK60 => ?_
          refine wp_seq_k fun K61 hK61 => ?_
          refine c_region ?_
          refine s_op (o_move (v := (.bool ((textS rest).2.2))) rfl ?_)
          refine s_nil ?_
          refine t_norm (hK61 _ _ ?_)
          refine c_condb rfl (fun h62 => ?_) (fun h62 => ?_)
          · -- (textS rest).2.2
            refine c_region ?_
            refine s_op (o_move (v := (S ((textS rest).2.1))) rfl ?_)
            refine s_op (o_callf (vs := #[(S ((textS rest).2.1))]) ca107 rfl (args1 rfl) (text_c (s := (textS rest).2.1) hH59.all (by first | omega | (simp only []; omega) | (simp; done) | (simp; omega))) ?_)
            rintro _ w65 ⟨rfl, hX63⟩
            refine ⟨_, rfl, ?_⟩
            have hH64 := hX63.of_all
            have htl_ := textS_le ((textS rest).2.1)
            refine s_op (o_move (v := (.tuple #[(S ((textS ((textS rest).2.1)).1)), (S ((textS ((textS rest).2.1)).2.1)), (.bool ((textS ((textS rest).2.1)).2.2))])) rfl ?_)
            refine s_op (o_extract (v := (S ((textS ((textS rest).2.1)).1))) rfl rfl ?_)
            refine s_op (o_extract (v := (S ((textS ((textS rest).2.1)).2.1))) rfl rfl ?_)
            refine s_op (o_extract (v := (.bool ((textS ((textS rest).2.1)).2.2))) rfl rfl ?_)
            refine s_op (o_fieldAddr (k := 1) (fun _ => by kernel_rfl) rfl ?_)
            refine s_eff (o_store1 (c' := #[(S ((textS rest).1)), (S ((textS ((textS rest).2.1)).1))]) ti9 rfl rfl rfl (by simp) rfl (hH64.front 0 rfl) fun w66 hH67 => ?_)
            refine s_op (o_assign (v := (S ((textS ((textS rest).2.1)).2.1))) rfl ?_)
            refine s_op (o_assign (v := (.bool ((textS ((textS rest).2.1)).2.2))) rfl ?_)
            refine s_nil ?_
            refine t_norm (hK60 _ _ ?_)
            refine c_region ?_
            refine s_op (o_fieldAddr (k := 2) (fun _ => by kernel_rfl) e38_4 ?_)
            refine s_op (o_load1 (v := vo) Tryz.underlying34 rfl rfl hH67 (seg_sub 2 rfl) (CellsAt.one rfl) ?_)
            refine s_op (o_loadN (cs := [(S ((textS rest).1)), (S ((textS ((textS rest).2.1)).1))]) Tryz.underlying70 rfl ti70 rfl hH67 (seg_sub 0 rfl) (CellsAt.one rfl) ?_)
            refine s_op (o_buildSlice (ps := #[(0, (.agg #[(S ((textS rest).1)), (S ((textS ((textS rest).2.1)).1))]))]) (cells := #[(S ((textS rest).1)), (S ((textS ((textS rest).2.1)).1))]) Tryz.underlying34 ti70 (by decide) (parts1 rfl) (by kernel_rfl) hH67 fun b68 w69 hH70 => ?_)
            refine s_op (o_append Tryz.underlying34 ti70 rfl (by decide) rfl hoo rfl (sl_litF (f := ceC) (l := [(((textS rest).1, (textS ((textS rest).2.1)).1) : Cel)]) ceC_len rfl rfl (by simp)) (hH70.front 2 rfl) (seg_sub 0 rfl) (one_ceC _) (by simp; omega) (by simp; omega) fun v71 s72 w74 ho73 hH75 => ?_)
            have ho73 : Own 70 2 v71 (acc ++ [(((textS rest).1, (textS ((textS rest).2.1)).1) : Cel)]).length ((acc ++ [(((textS rest).1, (textS ((textS rest).2.1)).1) : Cel)]).flatMap ceC) s72 := ho73.appF
            refine s_op (o_fieldAddr (k := 2) (fun _ => by kernel_rfl) e38_4 ?_)
            refine s_eff (o_store1 (c' := #[(.int .i64 ((takeS s 1).1)), (.int .i64 ((takeS ((takeS s 1).2.1) 8).1)), v71]) ti34 rfl rfl ho73.one (by simp) rfl (hH75.front 3 rfl) fun w76 hH77 => ?_)
            refine s_nil ?_
            refine b_norm ?_
            refine t_norm (hK49 _ _ ?_)
            refine c_region ?_
            refine s_op (o_move (v := (.int .i64 n)) e38_10 ?_)
            refine s_op (o_sub (a := n) (b := 1) rfl rfl (w64 (by omega) (by omega)) ?_)
            refine s_op (o_assign (v := (.int .i64 (n - 1))) rfl ?_)
            refine s_nil ?_
            have hH78 : Has E w76 [s72, [Hp.one b17 (.cells #[(.int .i64 ((takeS s 1).1)), (.int .i64 ((takeS ((takeS s 1).2.1) 8).1)), v71] 36 (0, 0))], [Hp.one b2 (.cells #[(.int .i64 0), (.int .i64 0), (.slice none 0 0)] 36 (0, 0))], R] := ((((hH77.front 5 rfl).front 5 rfl).front 2 rfl).front 3 rfl).first 4 rfl
            refine t_norm ⟨(n - 1).toNat, _, rfl, ?_, ?_⟩
            · omega
            · exact ⟨((textS ((textS rest).2.1)).2.2), (n - 1), ((textS ((textS rest).2.1)).2.1), v71, s72, (acc ++ [(((textS rest).1, (textS ((textS rest).2.1)).1) : Cel)]), rfl, hH78, (ho73), (by simp only [List.length_append, List.length_cons, List.length_nil]; omega), (by omega), (by omega), (by ((have h_ := goS_step (r3 := ((textS ((textS rest).2.1)).2.1)) hgo h46 (by omega) (by omega)); rw [if_pos (by simpa using h62)] at h_; exact h_)), e38_0, e38_2, e38_3, e38_4, e38_5, rfl, e38_8, rfl, rfl, e38_15⟩
          · -- not: (textS rest).2.2
            refine wp_skip ?_
            refine t_norm (hK60 _ _ ?_)
            refine c_region ?_
            refine s_op (o_fieldAddr (k := 2) (fun _ => by kernel_rfl) e38_4 ?_)
            refine s_op (o_load1 (v := vo) Tryz.underlying34 rfl rfl hH59 (seg_sub 2 rfl) (CellsAt.one rfl) ?_)
            refine s_op (o_loadN (cs := [(S ((textS rest).1)), (S ([] : List UInt8))]) Tryz.underlying70 rfl ti70 rfl hH59 (seg_sub 0 rfl) (CellsAt.one rfl) ?_)
            refine s_op (o_buildSlice (ps := #[(0, (.agg #[(S ((textS rest).1)), (S ([] : List UInt8))]))]) (cells := #[(S ((textS rest).1)), (S ([] : List UInt8))]) Tryz.underlying34 ti70 (by decide) (parts1 rfl) (by kernel_rfl) hH59 fun b79 w80 hH81 => ?_)
            refine s_op (o_append Tryz.underlying34 ti70 rfl (by decide) rfl hoo rfl (sl_litF (f := ceC) (l := [(((textS rest).1, ([] : List UInt8)) : Cel)]) ceC_len rfl rfl (by simp)) (hH81.front 2 rfl) (seg_sub 0 rfl) (one_ceC _) (by simp; omega) (by simp; omega) fun v82 s83 w85 ho84 hH86 => ?_)
            have ho84 : Own 70 2 v82 (acc ++ [(((textS rest).1, ([] : List UInt8)) : Cel)]).length ((acc ++ [(((textS rest).1, ([] : List UInt8)) : Cel)]).flatMap ceC) s83 := ho84.appF
            refine s_op (o_fieldAddr (k := 2) (fun _ => by kernel_rfl) e38_4 ?_)
            refine s_eff (o_store1 (c' := #[(.int .i64 ((takeS s 1).1)), (.int .i64 ((takeS ((takeS s 1).2.1) 8).1)), v82]) ti34 rfl rfl ho84.one (by simp) rfl (hH86.front 3 rfl) fun w87 hH88 => ?_)
            refine s_nil ?_
            refine b_norm ?_
            refine t_norm (hK49 _ _ ?_)
            refine c_region ?_
            refine s_op (o_move (v := (.int .i64 n)) e38_10 ?_)
            refine s_op (o_sub (a := n) (b := 1) rfl rfl (w64 (by omega) (by omega)) ?_)
            refine s_op (o_assign (v := (.int .i64 (n - 1))) rfl ?_)
            refine s_nil ?_
            have hH89 : Has E w87 [s83, [Hp.one b17 (.cells #[(.int .i64 ((takeS s 1).1)), (.int .i64 ((takeS ((takeS s 1).2.1) 8).1)), v82] 36 (0, 0))], [Hp.one b2 (.cells #[(.int .i64 0), (.int .i64 0), (.slice none 0 0)] 36 (0, 0))], R] := ((((hH88.front 5 rfl).front 5 rfl).front 2 rfl).front 3 rfl).first 4 rfl
            refine t_norm ⟨(n - 1).toNat, _, rfl, ?_, ?_⟩
            · omega
            · exact ⟨((textS rest).2.2), (n - 1), ((textS rest).2.1), v82, s83, (acc ++ [(((textS rest).1, ([] : List UInt8)) : Cel)]), rfl, hH89, (ho84), (by simp only [List.length_append, List.length_cons, List.length_nil]; omega), (by omega), (by omega), (by ((have h_ := goS_step (r3 := ((textS rest).2.1)) hgo h46 (by omega) (by omega)); rw [if_neg (by simpa using h62)] at h_; rw [show (textS rest).2.2 = false by simpa using h62]; exact h_)), e38_0, e38_2, e38_3, e38_4, e38_5, rfl, e38_8, rfl, rfl, e38_15⟩
        · -- not: ((acc.length : Nat) : Int) < 8
          refine wp_exit ?_
          refine t_exit (t_exit (x_in (?_)))
          refine t_norm (hK37 _ _ ?_)
          refine wp_seq_k fun K90 hK90 => ?_
          refine wp_seq_k fun K91 hK91 => ?_
          refine c_region ?_
          refine s_op (o_move (v := (.bool ok)) e38_9 ?_)
          refine s_op (o_not (b := true) ((rfl : _ = _).trans (congrArg Value.bool h46)) ?_)
          refine s_op (o_move (v := (.bool false)) rfl ?_)
          refine s_on 75 rfl rfl (o_loadN (cs := [(.int .i64 ((takeS s 1).1)), (.int .i64 ((takeS ((takeS s 1).2.1) 8).1)), vo]) Tryz.underlying36 rfl ti36 e38_4 hH42 (seg_sub 1 rfl) (CellsAt.one rfl) ?_)
          refine s_on 75 rfl rfl (o_callf (vs := #[(.agg #[(.int .i64 ((takeS s 1).1)), (.int .i64 ((takeS ((takeS s 1).2.1) 8).1)), vo])]) ca96 rfl (args1 rfl) (plaid_c (no := (takeS s 1).1) (gsn := (takeS ((takeS s 1).2.1) 8).1) (l := acc) hH42.all (hoo.sl.mono (seg_sub 0 rfl)) (hg.mono (seg_sub 3 rfl))) ?_)
          rintro _ w94 ⟨rfl, hX92⟩
          refine ⟨_, rfl, ?_⟩
          have hH93 := hX92.of_all
          have hll_ := laidP_le ((takeS s 1).1) ((takeS ((takeS s 1).2.1) 8).1) acc
          refine s_on 75 rfl rfl (o_move (v := (S s)) e38_0 ?_)
          refine s_on 75 rfl rfl (o_sneq (a := (laidP ((takeS s 1).1) ((takeS ((takeS s 1).2.1) 8).1) acc)) (b := s) rfl rfl ?_)
          refine s_op (o_pick_f (u := (.bool (decide ((laidP ((takeS s 1).1) ((takeS ((takeS s 1).2.1) 8).1) acc) ≠ s)))) rfl rfl ?_)
          refine s_nil ?_
          refine t_norm (hK91 _ _ ?_)
          refine c_cond rfl (fun h95 => ?_) (fun h95 => ?_)
          · -- (laidP ((takeS s 1).1) ((takeS ((takeS s 1).2.1) 8).1) acc) ≠ s
            refine wp_seq_k fun K96 hK96 => ?_
            refine c_region ?_
            refine s_op (o_sight (v := (.agg #[(.int .i64 0), (.int .i64 0), (.slice none 0 0)])) (fun _ => by kernel_rfl) ?_)
            refine s_eff (o_storeN (vs := [(.int .i64 0), (.int .i64 0), (.slice none 0 0)]) (c' := #[(.int .i64 0), (.int .i64 0), (.slice none 0 0)]) ti36 e38_2 rfl rfl rfl (by intro u hu; simp only [List.mem_cons, List.not_mem_nil, or_false] at hu; rcases hu with rfl | rfl | rfl <;> first | rfl) (by simp) (by kernel_rfl) (hH93.front 2 rfl) fun w97 hH98 => ?_)
            refine s_op (o_assign (v := (.bool false)) rfl ?_)
            refine s_nil ?_
            refine t_norm (hK96 _ _ ?_)
            refine wp_ret ?_
            refine t_ret (c_retC2 Tryz.results66 e38_2 (run_loadVarN (cs := [(.int .i64 0), (.int .i64 0), (.slice none 0 0)]) Tryz.underlying36 rfl ti36 hH98 (seg_sub 0 rfl) (CellsAt.one rfl)) (x := (.bool false)) rfl ?_)
            have hge_ := goS_end hgo (by first | exact .inr (.inl (by omega)) | exact .inr (.inr (by omega)) | exact .inl (by simpa using h46))
            have hE_ := readP_no (s := s) (by rw [hge_]; first | exact .inr (.inl (by simpa using h7)) | exact .inr (.inr h7) | exact .inr (.inl (by simpa using h46)) | exact .inr (.inr h46) | exact .inr (.inl (by simpa using h47)) | exact .inr (.inr h47) | exact .inr (.inl (by simpa using h48)) | exact .inr (.inr h48) | exact .inr (.inl (by simpa using h95)) | exact .inr (.inr h95))
            have q99 : (readP s).2.1 = 0 := by rw [hE_]
            have q100 : (readP s).2.2.1 = 0 := by rw [hE_]
            have q101 : (readP s).2.2.2 = ([] : List Cel) := by rw [hE_]
            have q102 : (readP s).1 = false := by rw [hE_]
            have hH103 : Has E w97 [[], R] := (Has.nil (hH98.front 3 rfl)).first 2 rfl
            exact ⟨_, _, by rw [q99, q100]; rw [q102], (by rw [q101]; exact (Own.nil 70 2)), hH103⟩
          · -- not: (laidP ((takeS s 1).1) ((takeS ((takeS s 1).2.1) 8).1) acc) ≠ s
            refine wp_skip ?_
            refine t_norm (hK90 _ _ ?_)
            refine wp_seq_k fun K104 hK104 => ?_
            refine c_region ?_
            refine s_op (o_loadN (cs := [(.int .i64 ((takeS s 1).1)), (.int .i64 ((takeS ((takeS s 1).2.1) 8).1)), vo]) Tryz.underlying36 rfl ti36 e38_4 hH93 (seg_sub 1 rfl) (CellsAt.one rfl) ?_)
            refine s_eff (o_storeN (vs := [(.int .i64 ((takeS s 1).1)), (.int .i64 ((takeS ((takeS s 1).2.1) 8).1)), vo]) (c' := #[(.int .i64 ((takeS s 1).1)), (.int .i64 ((takeS ((takeS s 1).2.1) 8).1)), vo]) ti36 e38_2 rfl rfl rfl (by intro u hu; simp only [List.mem_cons, List.not_mem_nil, or_false] at hu; rcases hu with rfl | rfl | rfl <;> first | rfl | exact hoo.one) (by simp) (by kernel_rfl) (hH93.front 2 rfl) fun w105 hH106 => ?_)
            refine s_op (o_assign (v := (.bool true)) rfl ?_)
            refine s_nil ?_
            refine t_norm (hK104 _ _ ?_)
            refine wp_ret ?_
            refine c_retC2 Tryz.results66 e38_2 (run_loadVarN (cs := [(.int .i64 ((takeS s 1).1)), (.int .i64 ((takeS ((takeS s 1).2.1) 8).1)), vo]) Tryz.underlying36 rfl ti36 hH106 (seg_sub 0 rfl) (CellsAt.one rfl)) (x := (.bool true)) rfl ?_
            have hge_ := goS_end hgo (by first | exact .inr (.inl (by omega)) | exact .inr (.inr (by omega)))
            rw [h46] at hge_
            have hE_ := readP_yes (s := s) (by omega) hge_ (Classical.not_not.1 h95)
            have q107 : (readP s).2.1 = (takeS s 1).1 := by rw [hE_]
            have q108 : (readP s).2.2.1 = (takeS ((takeS s 1).2.1) 8).1 := by rw [hE_]
            have q109 : (readP s).2.2.2 = acc := by rw [hE_]
            have q110 : (readP s).1 = true := by rw [hE_]
            have hH111 : Has E w105 [so, R] := ((hH106.front 3 rfl).front 2 rfl).first 2 rfl
            exact ⟨_, _, by rw [q107, q108]; rw [q110], (by rw [q109]; exact hoo), hH111⟩
      · -- not: 0 < n
        refine s_off (b' := false) 44 rfl (congrArg Value.bool (decide_eq_false h47)) rfl ?_
        refine s_off (b' := false) 44 rfl (congrArg Value.bool (decide_eq_false h47)) rfl ?_
        refine s_off (b' := false) 44 rfl (congrArg Value.bool (decide_eq_false h47)) rfl ?_
        refine s_off (b' := false) 44 rfl (congrArg Value.bool (decide_eq_false h47)) rfl ?_
        refine s_op (o_pick_f (u := (.bool false)) ((rfl : _ = _).trans (congrArg Value.bool (decide_eq_false h47))) rfl ?_)
        refine s_nil ?_
        refine t_norm (hK45 _ _ ?_)
        refine c_false rfl rfl ?_
        refine wp_exit ?_
        refine t_exit (t_exit (x_in (?_)))
        refine t_norm (hK37 _ _ ?_)
        refine wp_seq_k fun K112 hK112 => ?_
        refine wp_seq_k fun K113 hK113 => ?_
        refine c_region ?_
        refine s_op (o_move (v := (.bool ok)) e38_9 ?_)
        refine s_op (o_not (b := true) ((rfl : _ = _).trans (congrArg Value.bool h46)) ?_)
        refine s_op (o_move (v := (.bool false)) rfl ?_)
        refine s_on 75 rfl rfl (o_loadN (cs := [(.int .i64 ((takeS s 1).1)), (.int .i64 ((takeS ((takeS s 1).2.1) 8).1)), vo]) Tryz.underlying36 rfl ti36 e38_4 hH42 (seg_sub 1 rfl) (CellsAt.one rfl) ?_)
        refine s_on 75 rfl rfl (o_callf (vs := #[(.agg #[(.int .i64 ((takeS s 1).1)), (.int .i64 ((takeS ((takeS s 1).2.1) 8).1)), vo])]) ca96 rfl (args1 rfl) (plaid_c (no := (takeS s 1).1) (gsn := (takeS ((takeS s 1).2.1) 8).1) (l := acc) hH42.all (hoo.sl.mono (seg_sub 0 rfl)) (hg.mono (seg_sub 3 rfl))) ?_)
        rintro _ w116 ⟨rfl, hX114⟩
        refine ⟨_, rfl, ?_⟩
        have hH115 := hX114.of_all
        have hll_ := laidP_le ((takeS s 1).1) ((takeS ((takeS s 1).2.1) 8).1) acc
        refine s_on 75 rfl rfl (o_move (v := (S s)) e38_0 ?_)
        refine s_on 75 rfl rfl (o_sneq (a := (laidP ((takeS s 1).1) ((takeS ((takeS s 1).2.1) 8).1) acc)) (b := s) rfl rfl ?_)
        refine s_op (o_pick_f (u := (.bool (decide ((laidP ((takeS s 1).1) ((takeS ((takeS s 1).2.1) 8).1) acc) ≠ s)))) rfl rfl ?_)
        refine s_nil ?_
        refine t_norm (hK113 _ _ ?_)
        refine c_cond rfl (fun h117 => ?_) (fun h117 => ?_)
        · -- (laidP ((takeS s 1).1) ((takeS ((takeS s 1).2.1) 8).1) acc) ≠ s
          refine wp_seq_k fun K118 hK118 => ?_
          refine c_region ?_
          refine s_op (o_sight (v := (.agg #[(.int .i64 0), (.int .i64 0), (.slice none 0 0)])) (fun _ => by kernel_rfl) ?_)
          refine s_eff (o_storeN (vs := [(.int .i64 0), (.int .i64 0), (.slice none 0 0)]) (c' := #[(.int .i64 0), (.int .i64 0), (.slice none 0 0)]) ti36 e38_2 rfl rfl rfl (by intro u hu; simp only [List.mem_cons, List.not_mem_nil, or_false] at hu; rcases hu with rfl | rfl | rfl <;> first | rfl) (by simp) (by kernel_rfl) (hH115.front 2 rfl) fun w119 hH120 => ?_)
          refine s_op (o_assign (v := (.bool false)) rfl ?_)
          refine s_nil ?_
          refine t_norm (hK118 _ _ ?_)
          refine wp_ret ?_
          refine t_ret (c_retC2 Tryz.results66 e38_2 (run_loadVarN (cs := [(.int .i64 0), (.int .i64 0), (.slice none 0 0)]) Tryz.underlying36 rfl ti36 hH120 (seg_sub 0 rfl) (CellsAt.one rfl)) (x := (.bool false)) rfl ?_)
          have hge_ := goS_end hgo (by first | exact .inr (.inl (by omega)) | exact .inr (.inr (by omega)) | exact .inl (by simpa using h46))
          have hE_ := readP_no (s := s) (by rw [hge_]; first | exact .inr (.inl (by simpa using h7)) | exact .inr (.inr h7) | exact .inr (.inl (by simpa using h46)) | exact .inr (.inr h46) | exact .inr (.inl (by simpa using h47)) | exact .inr (.inr h47) | exact .inr (.inl (by simpa using h117)) | exact .inr (.inr h117))
          have q121 : (readP s).2.1 = 0 := by rw [hE_]
          have q122 : (readP s).2.2.1 = 0 := by rw [hE_]
          have q123 : (readP s).2.2.2 = ([] : List Cel) := by rw [hE_]
          have q124 : (readP s).1 = false := by rw [hE_]
          have hH125 : Has E w119 [[], R] := (Has.nil (hH120.front 3 rfl)).first 2 rfl
          exact ⟨_, _, by rw [q121, q122]; rw [q124], (by rw [q123]; exact (Own.nil 70 2)), hH125⟩
        · -- not: (laidP ((takeS s 1).1) ((takeS ((takeS s 1).2.1) 8).1) acc) ≠ s
          refine wp_skip ?_
          refine t_norm (hK112 _ _ ?_)
          refine wp_seq_k fun K126 hK126 => ?_
          refine c_region ?_
          refine s_op (o_loadN (cs := [(.int .i64 ((takeS s 1).1)), (.int .i64 ((takeS ((takeS s 1).2.1) 8).1)), vo]) Tryz.underlying36 rfl ti36 e38_4 hH115 (seg_sub 1 rfl) (CellsAt.one rfl) ?_)
          refine s_eff (o_storeN (vs := [(.int .i64 ((takeS s 1).1)), (.int .i64 ((takeS ((takeS s 1).2.1) 8).1)), vo]) (c' := #[(.int .i64 ((takeS s 1).1)), (.int .i64 ((takeS ((takeS s 1).2.1) 8).1)), vo]) ti36 e38_2 rfl rfl rfl (by intro u hu; simp only [List.mem_cons, List.not_mem_nil, or_false] at hu; rcases hu with rfl | rfl | rfl <;> first | rfl | exact hoo.one) (by simp) (by kernel_rfl) (hH115.front 2 rfl) fun w127 hH128 => ?_)
          refine s_op (o_assign (v := (.bool true)) rfl ?_)
          refine s_nil ?_
          refine t_norm (hK126 _ _ ?_)
          refine wp_ret ?_
          refine c_retC2 Tryz.results66 e38_2 (run_loadVarN (cs := [(.int .i64 ((takeS s 1).1)), (.int .i64 ((takeS ((takeS s 1).2.1) 8).1)), vo]) Tryz.underlying36 rfl ti36 hH128 (seg_sub 0 rfl) (CellsAt.one rfl)) (x := (.bool true)) rfl ?_
          have hge_ := goS_end hgo (by first | exact .inr (.inl (by omega)) | exact .inr (.inr (by omega)))
          rw [h46] at hge_
          have hE_ := readP_yes (s := s) (by omega) hge_ (Classical.not_not.1 h117)
          have q129 : (readP s).2.1 = (takeS s 1).1 := by rw [hE_]
          have q130 : (readP s).2.2.1 = (takeS ((takeS s 1).2.1) 8).1 := by rw [hE_]
          have q131 : (readP s).2.2.2 = acc := by rw [hE_]
          have q132 : (readP s).1 = true := by rw [hE_]
          have hH133 : Has E w127 [so, R] := ((hH128.front 3 rfl).front 2 rfl).first 2 rfl
          exact ⟨_, _, by rw [q129, q130]; rw [q132], (by rw [q131]; exact hoo), hH133⟩
    · -- not: ok
      refine s_off (b' := false) 40 rfl (congrArg Value.bool h46) rfl ?_
      refine s_off (b' := false) 40 rfl (congrArg Value.bool h46) rfl ?_
      refine s_op (o_pick_f (u := (.bool false)) ((rfl : _ = _).trans (congrArg Value.bool h46)) rfl ?_)
      refine s_op (o_move (v := (.bool false)) rfl ?_)
      refine s_off (b' := false) 44 rfl rfl rfl ?_
      refine s_off (b' := false) 44 rfl rfl rfl ?_
      refine s_off (b' := false) 44 rfl rfl rfl ?_
      refine s_off (b' := false) 44 rfl rfl rfl ?_
      refine s_op (o_pick_f (u := (.bool false)) rfl rfl ?_)
      refine s_nil ?_
      refine t_norm (hK45 _ _ ?_)
      refine c_false rfl rfl ?_
      refine wp_exit ?_
      refine t_exit (t_exit (x_in (?_)))
      refine t_norm (hK37 _ _ ?_)
      refine wp_seq_k fun K134 hK134 => ?_
      refine wp_seq_k fun K135 hK135 => ?_
      refine c_region ?_
      refine s_op (o_move (v := (.bool ok)) e38_9 ?_)
      refine s_op (o_not (b := false) ((rfl : _ = _).trans (congrArg Value.bool h46)) ?_)
      refine s_op (o_move (v := (.bool true)) rfl ?_)
      refine s_off (b' := true) 75 rfl rfl rfl ?_
      refine s_off (b' := true) 75 rfl rfl rfl ?_
      refine s_off (b' := true) 75 rfl rfl rfl ?_
      refine s_off (b' := true) 75 rfl rfl rfl ?_
      refine s_op (o_pick_t (u := (.bool true)) rfl rfl ?_)
      refine s_nil ?_
      refine t_norm (hK135 _ _ ?_)
      refine c_true rfl rfl ?_
      refine wp_seq_k fun K136 hK136 => ?_
      refine c_region ?_
      refine s_op (o_sight (v := (.agg #[(.int .i64 0), (.int .i64 0), (.slice none 0 0)])) (fun _ => by kernel_rfl) ?_)
      refine s_eff (o_storeN (vs := [(.int .i64 0), (.int .i64 0), (.slice none 0 0)]) (c' := #[(.int .i64 0), (.int .i64 0), (.slice none 0 0)]) ti36 e38_2 rfl rfl rfl (by intro u hu; simp only [List.mem_cons, List.not_mem_nil, or_false] at hu; rcases hu with rfl | rfl | rfl <;> first | rfl) (by simp) (by kernel_rfl) (hH42.front 2 rfl) fun w137 hH138 => ?_)
      refine s_op (o_assign (v := (.bool false)) rfl ?_)
      refine s_nil ?_
      refine t_norm (hK136 _ _ ?_)
      refine wp_ret ?_
      refine t_ret (c_retC2 Tryz.results66 e38_2 (run_loadVarN (cs := [(.int .i64 0), (.int .i64 0), (.slice none 0 0)]) Tryz.underlying36 rfl ti36 hH138 (seg_sub 0 rfl) (CellsAt.one rfl)) (x := (.bool false)) rfl ?_)
      have hge_ := goS_end hgo (by first | exact .inr (.inl (by omega)) | exact .inr (.inr (by omega)) | exact .inl (by simpa using h46))
      have hE_ := readP_no (s := s) (by rw [hge_]; first | exact .inr (.inl (by simpa using h7)) | exact .inr (.inr h7) | exact .inr (.inl (by simpa using h46)) | exact .inr (.inr h46))
      have q139 : (readP s).2.1 = 0 := by rw [hE_]
      have q140 : (readP s).2.2.1 = 0 := by rw [hE_]
      have q141 : (readP s).2.2.2 = ([] : List Cel) := by rw [hE_]
      have q142 : (readP s).1 = false := by rw [hE_]
      have hH143 : Has E w137 [[], R] := (Has.nil (hH138.front 3 rfl)).first 2 rfl
      exact ⟨_, _, by rw [q139, q140]; rw [q142], (by rw [q141]; exact (Own.nil 70 2)), hH143⟩
end Go.Q
namespace Go.Q
open Go.Proofs
set_option linter.unusedVariables false
set_option maxRecDepth 100000
attribute [local irreducible] wpList OK Code.wp
set_option maxHeartbeats 4000000 in
theorem tstore_c {E w : World} {R sg : List Hp} {pb db tb : Nat} {d : Dv} {n : Int} (hH : Has E w [sg, [Hp.one pb (.cells #[(.bool d.p.off), (.bool d.p.armed), (.int .i64 d.p.left), (.int .i64 d.p.uses)] 101 (0, 0))], [Hp.one tb (.cells #[(.pointer (some ⟨db, 0, none⟩)), (.int .i64 n)] 98 (0, 0))], R]) (hd : DevAt pb sg db d.la d.lo) {k : Nat} (hf : Few d.p k) (hk : k ≤ 850000) (hlo : d.lo = []) (h4 : d.la.length ≤ 4096) (hg : CellsAt R 1 0 nibV) {a : Pg} (hin : PgIn R a) :
    Calls Tryz.prog 56 #[(.pointer (some ⟨tb, 0, none⟩)), (.agg #[(.int .i64 a.1), (.int .i64 a.2.1), a.2.2.1])] w fun e w' => ∃ sg', e = .returned (.int .i64 (st1 d n a).1) ∧ DevAt pb sg' db (st1 d n a).2.la (st1 d n a).2.lo ∧ Has E w' [sg', [Hp.one pb (.cells #[(.bool ((st1 d n a).2).p.off), (.bool ((st1 d n a).2).p.armed), (.int .i64 ((st1 d n a).2).p.left), (.int .i64 ((st1 d n a).2).p.uses)] 101 (0, 0))], [Hp.one tb (.cells #[(.pointer (some ⟨db, 0, none⟩)), (.int .i64 n)] 98 (0, 0))], R] := by
  have hcn_ := Sl.le hin
  refine c_enter (args := [(.pointer (some ⟨tb, 0, none⟩)), (.agg #[(.int .i64 a.1), (.int .i64 a.2.1), a.2.2.1])]) Tryz.func56 rfl Tryz.ntmps56 (by simp) ?_
  refine wp_seq_k fun K1 hK1 => ?_
  refine c_region ?_
  refine s_op (o_box (cs := #[(.int .i64 a.1), (.int .i64 a.2.1), a.2.2.1]) rfl rfl hH fun b2 w3 hH4 => ?_)
  refine s_op (o_assign (v := (.int .i64 0)) rfl ?_)
  refine s_nil ?_
  refine t_norm (hK1 _ _ ?_)
  refine wp_seq_k fun K5 hK5 => ?_
  refine c_region ?_
  refine s_op (o_loadN (cs := [(.int .i64 a.1), (.int .i64 a.2.1), a.2.2.1]) Tryz.underlying36 rfl ti36 rfl hH4 (seg_sub 0 rfl) (CellsAt.one rfl) ?_)
  refine s_op (o_callf (vs := #[(.agg #[(.int .i64 a.1), (.int .i64 a.2.1), a.2.2.1])]) ca96 rfl (args1 rfl) (plaid_c (no := a.1) (gsn := a.2.1) (l := a.2.2.2) hH4.all (hin.mono (seg_sub 4 rfl)) (hg.mono (seg_sub 4 rfl))) ?_)
  rintro _ w8 ⟨rfl, hX6⟩
  refine ⟨_, rfl, ?_⟩
  have hH7 := hX6.of_all
  have hll_ := laidP_le a.1 a.2.1 a.2.2.2
  refine s_op (o_assign (v := (S (laidP a.1 a.2.1 a.2.2.2))) rfl ?_)
  refine s_nil ?_
  refine t_norm (hK5 _ _ ?_)
  refine wp_seq_k fun K9 hK9 => ?_
  refine wp_seq_k fun K10 hK10 => ?_
  refine Rest.region mixed (by kernel_rfl) ?_
  have hH11 : Has E { w8 with drawn := w8.drawn + 1 } [[Hp.one b2 (.cells #[(.int .i64 a.1), (.int .i64 a.2.1), a.2.2.1] 36 (0, 0))], sg, [Hp.one pb (.cells #[(.bool d.p.off), (.bool d.p.armed), (.int .i64 d.p.left), (.int .i64 d.p.uses)] 101 (0, 0))], [Hp.one tb (.cells #[(.pointer (some ⟨db, 0, none⟩)), (.int .i64 n)] 98 (0, 0))], R] := Has0.drew hH7 _
  refine r_op 0 rfl (by kernel_rfl) (o_move (v := (S (laidP a.1 a.2.1 a.2.2.2))) rfl ?_)
  refine r_op 1 rfl (by kernel_rfl) (o_seql (a := (laidP a.1 a.2.1 a.2.2.2)) (b := ([] : List UInt8)) rfl rfl ?_)
  refine r_op 2 rfl (by kernel_rfl) (o_move (v := (.bool (decide ((laidP a.1 a.2.1 a.2.2.2) = ([] : List UInt8))))) rfl ?_)
  refine Rest.phaseA (fun w_ => Has E w_ [[Hp.one b2 (.cells #[(.int .i64 a.1), (.int .i64 a.2.1), a.2.2.1] 36 (0, 0))], [Hp.one tb (.cells #[(.pointer (some ⟨db, 0, none⟩)), (.int .i64 n)] 98 (0, 0))]]) 3 9 6 rfl (by decide) (by kernel_rfl) ?_
  by_cases h12 : (laidP a.1 a.2.1 a.2.2.2) = ([] : List UInt8)
  · -- (laidP a.1 a.2.1 a.2.2.2) = ([] : List UInt8)
    refine a_off (b' := true) 3 rfl (by kernel_rfl) 13 rfl (congrArg Value.bool (decide_eq_true h12)) rfl ?_
    refine a_off (b' := true) 4 rfl (by kernel_rfl) 13 rfl (congrArg Value.bool (decide_eq_true h12)) rfl ?_
    refine a_off (b' := true) 5 rfl (by kernel_rfl) 13 rfl (congrArg Value.bool (decide_eq_true h12)) rfl ?_
    refine a_off (b' := true) 6 rfl (by kernel_rfl) 13 rfl (congrArg Value.bool (decide_eq_true h12)) rfl ?_
    refine a_off (b' := true) 7 rfl (by kernel_rfl) 13 rfl (congrArg Value.bool (decide_eq_true h12)) rfl ?_
    refine a_off (b' := true) 8 rfl (by kernel_rfl) 13 rfl (congrArg Value.bool (decide_eq_true h12)) rfl ?_
    have hH13 : Has E { w8 with drawn := w8.drawn + 1 } [[Hp.one b2 (.cells #[(.int .i64 a.1), (.int .i64 a.2.1), a.2.2.1] 36 (0, 0))], [Hp.one tb (.cells #[(.pointer (some ⟨db, 0, none⟩)), (.int .i64 n)] 98 (0, 0))]] := ((hH11.front 3 rfl).front 1 rfl).first 2 rfl
    refine a_done (by kernel_rfl) hH13 ?_
    refine r_off (b' := true) 9 rfl (by kernel_rfl) 13 rfl (congrArg Value.bool (decide_eq_true h12)) rfl ?_
    refine r_op 10 rfl (by kernel_rfl) (o_pick_t (u := (.bool true)) ((rfl : _ = _).trans (congrArg Value.bool (decide_eq_true h12))) rfl ?_)
    refine Rest.done (by kernel_rfl) ?_
    refine t_norm (hK10 _ _ ?_)
    refine c_true rfl rfl ?_
    refine wp_seq_k fun K14 hK14 => ?_
    refine c_region ?_
    refine s_op (o_assign (v := (.int .i64 1)) rfl ?_)
    refine s_nil ?_
    refine t_norm (hK14 _ _ ?_)
    refine wp_ret ?_
    refine t_ret (c_ret1 Tryz.results56  (v := (.int .i64 1)) rfl ?_)
    have hH15 : Has E { w8 with drawn := w8.drawn + 1 } [sg, [Hp.one pb (.cells #[(.bool d.p.off), (.bool d.p.armed), (.int .i64 d.p.left), (.int .i64 d.p.uses)] 101 (0, 0))], [Hp.one tb (.cells #[(.pointer (some ⟨db, 0, none⟩)), (.int .i64 n)] 98 (0, 0))], R] := ((((hH11.front 4 rfl).front 4 rfl).front 4 rfl).front 4 rfl).first 4 rfl
    have hE_ : (st1 d n a) = (1, d) := if_pos (.inl h12)
    exact ⟨_, by rw [hE_], by rw [hE_]; exact hd, by rw [hE_]; exact hH15⟩
  · -- not: (laidP a.1 a.2.1 a.2.2.2) = ([] : List UInt8)
    refine a_on 3 rfl (by kernel_rfl) 13 rfl (congrArg Value.bool (decide_eq_false h12)) (fun w_ h_ => o_fieldAddr (k := 0) (fun _ => by kernel_rfl) rfl ⟨rfl, rfl⟩) ?_
    refine a_on 4 rfl (by kernel_rfl) 13 rfl (congrArg Value.bool (decide_eq_false h12)) (fun w_ h_ => o_load1 (v := (.int .i64 a.1)) Tryz.underlying3 rfl rfl h_ (seg_sub 0 rfl) (CellsAt.one rfl) ⟨rfl, rfl⟩) ?_
    refine a_on 5 rfl (by kernel_rfl) 13 rfl (congrArg Value.bool (decide_eq_false h12)) (fun w_ h_ => o_move (v := (.pointer (some ⟨tb, 0, none⟩))) rfl ⟨rfl, rfl⟩) ?_
    refine a_on 6 rfl (by kernel_rfl) 13 rfl (congrArg Value.bool (decide_eq_false h12)) (fun w_ h_ => o_nilCheck rfl ⟨rfl, rfl⟩) ?_
    refine a_on 7 rfl (by kernel_rfl) 13 rfl (congrArg Value.bool (decide_eq_false h12)) (fun w_ h_ => o_fieldAddr (k := 1) (fun _ => by kernel_rfl) rfl ⟨rfl, rfl⟩) ?_
    refine a_on 8 rfl (by kernel_rfl) 13 rfl (congrArg Value.bool (decide_eq_false h12)) (fun w_ h_ => o_load1 (v := (.int .i64 n)) Tryz.underlying3 rfl rfl h_ (seg_sub 1 rfl) (CellsAt.one rfl) ⟨rfl, rfl⟩) ?_
    have hH16 : Has E { w8 with drawn := w8.drawn + 1 } [[Hp.one b2 (.cells #[(.int .i64 a.1), (.int .i64 a.2.1), a.2.2.1] 36 (0, 0))], [Hp.one tb (.cells #[(.pointer (some ⟨db, 0, none⟩)), (.int .i64 n)] 98 (0, 0))]] := ((hH11.front 3 rfl).front 1 rfl).first 2 rfl
    refine a_done (by kernel_rfl) hH16 ?_
    refine r_on 9 rfl (by kernel_rfl) 13 rfl (congrArg Value.bool (decide_eq_false h12)) (o_geq (a := a.1) (b := n) rfl rfl ?_)
    refine r_op 10 rfl (by kernel_rfl) (o_pick_f (u := (.bool (decide (n ≤ a.1)))) ((rfl : _ = _).trans (congrArg Value.bool (decide_eq_false h12))) rfl ?_)
    refine Rest.done (by kernel_rfl) ?_
    refine t_norm (hK10 _ _ ?_)
    refine c_cond rfl (fun h17 => ?_) (fun h17 => ?_)
    · -- n ≤ a.1
      refine wp_seq_k fun K18 hK18 => ?_
      refine c_region ?_
      refine s_op (o_assign (v := (.int .i64 1)) rfl ?_)
      refine s_nil ?_
      refine t_norm (hK18 _ _ ?_)
      refine wp_ret ?_
      refine t_ret (c_ret1 Tryz.results56  (v := (.int .i64 1)) rfl ?_)
      have hH19 : Has E { w8 with drawn := w8.drawn + 1 } [sg, [Hp.one pb (.cells #[(.bool d.p.off), (.bool d.p.armed), (.int .i64 d.p.left), (.int .i64 d.p.uses)] 101 (0, 0))], [Hp.one tb (.cells #[(.pointer (some ⟨db, 0, none⟩)), (.int .i64 n)] 98 (0, 0))], R] := ((((hH11.front 4 rfl).front 4 rfl).front 4 rfl).front 4 rfl).first 4 rfl
      have hE_ : (st1 d n a) = (1, d) := if_pos (.inr h17)
      exact ⟨_, by rw [hE_], by rw [hE_]; exact hd, by rw [hE_]; exact hH19⟩
    · -- not: n ≤ a.1
      have hR_ := lpg_right (a := a) h12
      have hL_ : (laidP a.1 a.2.1 a.2.2.2).length = 256 := laidP_len hR_
      obtain ⟨hn1_, hn2_⟩ := page_no hR_
      refine wp_skip ?_
      refine t_norm (hK9 _ _ ?_)
      refine wp_seq_k fun K20 hK20 => ?_
      refine wp_seq_k fun K21 hK21 => ?_
      refine c_region ?_
      refine s_op (o_move (v := (.pointer (some ⟨tb, 0, none⟩))) rfl ?_)
      refine s_op (o_move (v := (S (laidP a.1 a.2.1 a.2.2.2))) rfl ?_)
      refine s_op (o_callf (vs := #[(.pointer (some ⟨tb, 0, none⟩)), (.int .i64 1), (S (laidP a.1 a.2.1 a.2.2.2))]) ca97 rfl (args3 rfl rfl rfl) (tset_c (d := d) (n := n) (((hH11.front 3 rfl).front 3 rfl).front 3 rfl).all3 hd hf (by omega) (by rw [hlo]; exact LoOk.nil _) h4 (x := 1) (by first | exact ⟨by omega, by omega⟩ | (unfold plc; exact ⟨by omega, by omega⟩)) (s := (laidP a.1 a.2.1 a.2.2.2)) hL_) ?_)
      rintro _ w26 ⟨sg22, rfl, hd23, hX24⟩
      refine ⟨_, rfl, ?_⟩
      have hH25 : Has E w26 [sg22, [Hp.one pb (.cells #[(.bool ((wrsy d (setT 1 (laidP a.1 a.2.1 a.2.2.2))).2).p.off), (.bool ((wrsy d (setT 1 (laidP a.1 a.2.1 a.2.2.2))).2).p.armed), (.int .i64 ((wrsy d (setT 1 (laidP a.1 a.2.1 a.2.2.2))).2).p.left), (.int .i64 ((wrsy d (setT 1 (laidP a.1 a.2.1 a.2.2.2))).2).p.uses)] 101 (0, 0))], [Hp.one tb (.cells #[(.pointer (some ⟨db, 0, none⟩)), (.int .i64 n)] 98 (0, 0))], [Hp.one b2 (.cells #[(.int .i64 a.1), (.int .i64 a.2.1), a.2.2.1] 36 (0, 0))], R] := hX24.of_all3
      refine s_op (o_assign (v := (.int .i64 ((wrsy d (setT 1 (laidP a.1 a.2.1 a.2.2.2))).1))) rfl ?_)
      refine s_nil ?_
      refine t_norm (hK21 _ _ ?_)
      refine wp_seq_k fun K27 hK27 => ?_
      refine c_region ?_
      refine s_op (o_move (v := (.int .i64 ((wrsy d (setT 1 (laidP a.1 a.2.1 a.2.2.2))).1))) rfl ?_)
      refine s_op (o_neq (a := (wrsy d (setT 1 (laidP a.1 a.2.1 a.2.2.2))).1) (b := 0) rfl rfl ?_)
      refine s_nil ?_
      refine t_norm (hK27 _ _ ?_)
      refine c_cond rfl (fun h28 => ?_) (fun h28 => ?_)
      · -- (wrsy d (setT 1 (laidP a.1 a.2.1 a.2.2.2))).1 ≠ 0
        refine wp_seq_k fun K29 hK29 => ?_
        refine c_region ?_
        refine s_op (o_move (v := (.int .i64 ((wrsy d (setT 1 (laidP a.1 a.2.1 a.2.2.2))).1))) rfl ?_)
        refine s_op (o_assign (v := (.int .i64 ((wrsy d (setT 1 (laidP a.1 a.2.1 a.2.2.2))).1))) rfl ?_)
        refine s_nil ?_
        refine t_norm (hK29 _ _ ?_)
        refine wp_ret ?_
        refine t_ret (c_ret1 Tryz.results56  (v := (.int .i64 ((wrsy d (setT 1 (laidP a.1 a.2.1 a.2.2.2))).1))) rfl ?_)
        have hH30 : Has E w26 [sg22, [Hp.one pb (.cells #[(.bool ((wrsy d (setT 1 (laidP a.1 a.2.1 a.2.2.2))).2).p.off), (.bool ((wrsy d (setT 1 (laidP a.1 a.2.1 a.2.2.2))).2).p.armed), (.int .i64 ((wrsy d (setT 1 (laidP a.1 a.2.1 a.2.2.2))).2).p.left), (.int .i64 ((wrsy d (setT 1 (laidP a.1 a.2.1 a.2.2.2))).2).p.uses)] 101 (0, 0))], [Hp.one tb (.cells #[(.pointer (some ⟨db, 0, none⟩)), (.int .i64 n)] 98 (0, 0))], R] := ((((hH25.front 4 rfl).front 3 rfl).front 3 rfl).front 3 rfl).first 4 rfl
        have hE_ : (st1 d n a) = ((wrsy d (setT 1 (laidP a.1 a.2.1 a.2.2.2))).1, (wrsy d (setT 1 (laidP a.1 a.2.1 a.2.2.2))).2) := by rw [show (st1 d n a) = runs d (stG a.1 (laidP a.1 a.2.1 a.2.2.2)) from if_neg (fun g_ => g_.elim h12 h17)]; show runs d [setT 1 (laidP a.1 a.2.1 a.2.2.2), mrkG [a.1 + 1], setT (plc a.1) (laidP a.1 a.2.1 a.2.2.2), mrkG []] = _; rw [runs_stop h28]
        exact ⟨_, by rw [hE_], by rw [hE_]; exact hd23, by rw [hE_]; exact hH30⟩
      · -- not: (wrsy d (setT 1 (laidP a.1 a.2.1 a.2.2.2))).1 ≠ 0
        refine wp_skip ?_
        refine t_norm (hK20 _ _ ?_)
        refine wp_seq_k fun K31 hK31 => ?_
        refine wp_seq_k fun K32 hK32 => ?_
        refine c_region ?_
        refine s_op (o_move (v := (.pointer (some ⟨tb, 0, none⟩))) rfl ?_)
        refine s_op (o_fieldAddr (k := 0) (fun _ => by kernel_rfl) rfl ?_)
        refine s_op (o_load1 (v := (.int .i64 a.1)) Tryz.underlying3 rfl rfl hH25 (seg_sub 3 rfl) (CellsAt.one rfl) ?_)
        refine s_op (o_add (a := a.1) (b := 1) rfl rfl (w64 (by omega) (by omega)) ?_)
        refine s_op (o_buildSlice (ps := #[(0, (.int .i64 (a.1 + 1)))]) (cells := #[(.int .i64 (a.1 + 1))]) Tryz.underlying40 ti3 (by decide) (parts1 rfl) (by kernel_rfl) hH25 fun b33 w34 hH35 => ?_)
        refine s_op (o_callf (vs := #[(.pointer (some ⟨tb, 0, none⟩)), (.slice (some ⟨b33, 0, none⟩) 1 1)]) ca98 rfl (args2 rfl rfl) (tmark_c (d := (wrsy d (setT 1 (laidP a.1 a.2.1 a.2.2.2))).2) (n := n) (((hH35.front 3 rfl).front 3 rfl).front 3 rfl).all3 hd23 ((few_wrsy hf).mono (show _ ≤ k + 5 from Nat.le_refl _)) (by omega) (by rw [wrsy_zero (Classical.not_not.1 h28)]; exact LoOk.nil _) (by simp only [wrsy_len]; exact h4) (l := [a.1 + 1]) ((sl_lit (f := iV) (l := [a.1 + 1]) rfl rfl (by simp)).mono (seg_sub 0 rfl)) (by simp) (by rw [put_len ⟨by omega, by omega⟩]; decide)) ?_)
        rintro _ w40 ⟨sg36, rfl, hd37, hX38⟩
        refine ⟨_, rfl, ?_⟩
        have hH39 : Has E w40 [sg36, [Hp.one pb (.cells #[(.bool ((wrsy ((wrsy d (setT 1 (laidP a.1 a.2.1 a.2.2.2))).2) (mrkG [a.1 + 1])).2).p.off), (.bool ((wrsy ((wrsy d (setT 1 (laidP a.1 a.2.1 a.2.2.2))).2) (mrkG [a.1 + 1])).2).p.armed), (.int .i64 ((wrsy ((wrsy d (setT 1 (laidP a.1 a.2.1 a.2.2.2))).2) (mrkG [a.1 + 1])).2).p.left), (.int .i64 ((wrsy ((wrsy d (setT 1 (laidP a.1 a.2.1 a.2.2.2))).2) (mrkG [a.1 + 1])).2).p.uses)] 101 (0, 0))], [Hp.one tb (.cells #[(.pointer (some ⟨db, 0, none⟩)), (.int .i64 n)] 98 (0, 0))], [Hp.one b33 (.cells #[(.int .i64 (a.1 + 1))] 3 (0, 0))], [Hp.one b2 (.cells #[(.int .i64 a.1), (.int .i64 a.2.1), a.2.2.1] 36 (0, 0))], R] := hX38.of_all3
        refine s_op (o_assign (v := (.int .i64 ((wrsy ((wrsy d (setT 1 (laidP a.1 a.2.1 a.2.2.2))).2) (mrkG [a.1 + 1])).1))) rfl ?_)
        refine s_nil ?_
        refine t_norm (hK32 _ _ ?_)
        refine wp_seq_k fun K41 hK41 => ?_
        refine c_region ?_
        refine s_op (o_move (v := (.int .i64 ((wrsy ((wrsy d (setT 1 (laidP a.1 a.2.1 a.2.2.2))).2) (mrkG [a.1 + 1])).1))) rfl ?_)
        refine s_op (o_neq (a := (wrsy ((wrsy d (setT 1 (laidP a.1 a.2.1 a.2.2.2))).2) (mrkG [a.1 + 1])).1) (b := 0) rfl rfl ?_)
        refine s_nil ?_
        refine t_norm (hK41 _ _ ?_)
        refine c_cond rfl (fun h42 => ?_) (fun h42 => ?_)
        · -- (wrsy ((wrsy d (setT 1 (laidP a.1 a.2.1 a.2.2.2))).2) (mrkG [a.1 + 1])).1 ≠ 0
          refine wp_seq_k fun K43 hK43 => ?_
          refine c_region ?_
          refine s_op (o_move (v := (.int .i64 ((wrsy ((wrsy d (setT 1 (laidP a.1 a.2.1 a.2.2.2))).2) (mrkG [a.1 + 1])).1))) rfl ?_)
          refine s_op (o_assign (v := (.int .i64 ((wrsy ((wrsy d (setT 1 (laidP a.1 a.2.1 a.2.2.2))).2) (mrkG [a.1 + 1])).1))) rfl ?_)
          refine s_nil ?_
          refine t_norm (hK43 _ _ ?_)
          refine wp_ret ?_
          refine t_ret (c_ret1 Tryz.results56  (v := (.int .i64 ((wrsy ((wrsy d (setT 1 (laidP a.1 a.2.1 a.2.2.2))).2) (mrkG [a.1 + 1])).1))) rfl ?_)
          have hH44 : Has E w40 [sg36, [Hp.one pb (.cells #[(.bool ((wrsy ((wrsy d (setT 1 (laidP a.1 a.2.1 a.2.2.2))).2) (mrkG [a.1 + 1])).2).p.off), (.bool ((wrsy ((wrsy d (setT 1 (laidP a.1 a.2.1 a.2.2.2))).2) (mrkG [a.1 + 1])).2).p.armed), (.int .i64 ((wrsy ((wrsy d (setT 1 (laidP a.1 a.2.1 a.2.2.2))).2) (mrkG [a.1 + 1])).2).p.left), (.int .i64 ((wrsy ((wrsy d (setT 1 (laidP a.1 a.2.1 a.2.2.2))).2) (mrkG [a.1 + 1])).2).p.uses)] 101 (0, 0))], [Hp.one tb (.cells #[(.pointer (some ⟨db, 0, none⟩)), (.int .i64 n)] 98 (0, 0))], R] := ((((hH39.front 5 rfl).front 3 rfl).front 3 rfl).front 3 rfl).first 4 rfl
          have hE_ : (st1 d n a) = ((wrsy ((wrsy d (setT 1 (laidP a.1 a.2.1 a.2.2.2))).2) (mrkG [a.1 + 1])).1, (wrsy ((wrsy d (setT 1 (laidP a.1 a.2.1 a.2.2.2))).2) (mrkG [a.1 + 1])).2) := by rw [show (st1 d n a) = runs d (stG a.1 (laidP a.1 a.2.1 a.2.2.2)) from if_neg (fun g_ => g_.elim h12 h17)]; show runs d [setT 1 (laidP a.1 a.2.1 a.2.2.2), mrkG [a.1 + 1], setT (plc a.1) (laidP a.1 a.2.1 a.2.2.2), mrkG []] = _; rw [runs_go (Classical.not_not.1 h28), runs_stop h42]
          exact ⟨_, by rw [hE_], by rw [hE_]; exact hd37, by rw [hE_]; exact hH44⟩
        · -- not: (wrsy ((wrsy d (setT 1 (laidP a.1 a.2.1 a.2.2.2))).2) (mrkG [a.1 + 1])).1 ≠ 0
          refine wp_skip ?_
          refine t_norm (hK31 _ _ ?_)
          refine wp_seq_k fun K45 hK45 => ?_
          refine wp_seq_k fun K46 hK46 => ?_
          refine c_region ?_
          refine s_op (o_move (v := (.pointer (some ⟨tb, 0, none⟩))) rfl ?_)
          refine s_op (o_fieldAddr (k := 0) (fun _ => by kernel_rfl) rfl ?_)
          refine s_op (o_load1 (v := (.int .i64 a.1)) Tryz.underlying3 rfl rfl hH39 (seg_sub 4 rfl) (CellsAt.one rfl) ?_)
          refine s_op (o_callf (vs := #[(.int .i64 a.1)]) ca64 rfl (args1 rfl) (place_c hH39.all (x := a.1) ⟨by omega, by omega⟩) ?_)
          rintro _ w49 ⟨rfl, hX47⟩
          refine ⟨_, rfl, ?_⟩
          have hH48 := hX47.of_all
          refine s_op (o_move (v := (S (laidP a.1 a.2.1 a.2.2.2))) rfl ?_)
          refine s_op (o_callf (vs := #[(.pointer (some ⟨tb, 0, none⟩)), (.int .i64 (plc a.1)), (S (laidP a.1 a.2.1 a.2.2.2))]) ca97 rfl (args3 rfl rfl rfl) (tset_c (d := (wrsy ((wrsy d (setT 1 (laidP a.1 a.2.1 a.2.2.2))).2) (mrkG [a.1 + 1])).2) (n := n) (((hH48.front 2 rfl).front 2 rfl).front 2 rfl).all3 hd37 ((few_wrsy ((few_wrsy hf).mono (show _ ≤ k + 5 from Nat.le_refl _))).mono (show _ ≤ k + 5 + 2 from Nat.le_refl _)) (by omega) (by rw [wrsy_zero (Classical.not_not.1 h42)]; exact LoOk.nil _) (by simp only [wrsy_len]; exact h4) (x := plc a.1) (by first | exact ⟨by omega, by omega⟩ | (unfold plc; exact ⟨by omega, by omega⟩)) (s := (laidP a.1 a.2.1 a.2.2.2)) hL_) ?_)
          rintro _ w54 ⟨sg50, rfl, hd51, hX52⟩
          refine ⟨_, rfl, ?_⟩
          have hH53 : Has E w54 [sg50, [Hp.one pb (.cells #[(.bool ((wrsy ((wrsy ((wrsy d (setT 1 (laidP a.1 a.2.1 a.2.2.2))).2) (mrkG [a.1 + 1])).2) (setT (plc a.1) (laidP a.1 a.2.1 a.2.2.2))).2).p.off), (.bool ((wrsy ((wrsy ((wrsy d (setT 1 (laidP a.1 a.2.1 a.2.2.2))).2) (mrkG [a.1 + 1])).2) (setT (plc a.1) (laidP a.1 a.2.1 a.2.2.2))).2).p.armed), (.int .i64 ((wrsy ((wrsy ((wrsy d (setT 1 (laidP a.1 a.2.1 a.2.2.2))).2) (mrkG [a.1 + 1])).2) (setT (plc a.1) (laidP a.1 a.2.1 a.2.2.2))).2).p.left), (.int .i64 ((wrsy ((wrsy ((wrsy d (setT 1 (laidP a.1 a.2.1 a.2.2.2))).2) (mrkG [a.1 + 1])).2) (setT (plc a.1) (laidP a.1 a.2.1 a.2.2.2))).2).p.uses)] 101 (0, 0))], [Hp.one tb (.cells #[(.pointer (some ⟨db, 0, none⟩)), (.int .i64 n)] 98 (0, 0))], [Hp.one b33 (.cells #[(.int .i64 (a.1 + 1))] 3 (0, 0))], [Hp.one b2 (.cells #[(.int .i64 a.1), (.int .i64 a.2.1), a.2.2.1] 36 (0, 0))], R] := hX52.of_all3
          refine s_op (o_assign (v := (.int .i64 ((wrsy ((wrsy ((wrsy d (setT 1 (laidP a.1 a.2.1 a.2.2.2))).2) (mrkG [a.1 + 1])).2) (setT (plc a.1) (laidP a.1 a.2.1 a.2.2.2))).1))) rfl ?_)
          refine s_nil ?_
          refine t_norm (hK46 _ _ ?_)
          refine wp_seq_k fun K55 hK55 => ?_
          refine c_region ?_
          refine s_op (o_move (v := (.int .i64 ((wrsy ((wrsy ((wrsy d (setT 1 (laidP a.1 a.2.1 a.2.2.2))).2) (mrkG [a.1 + 1])).2) (setT (plc a.1) (laidP a.1 a.2.1 a.2.2.2))).1))) rfl ?_)
          refine s_op (o_neq (a := (wrsy ((wrsy ((wrsy d (setT 1 (laidP a.1 a.2.1 a.2.2.2))).2) (mrkG [a.1 + 1])).2) (setT (plc a.1) (laidP a.1 a.2.1 a.2.2.2))).1) (b := 0) rfl rfl ?_)
          refine s_nil ?_
          refine t_norm (hK55 _ _ ?_)
          refine c_cond rfl (fun h56 => ?_) (fun h56 => ?_)
          · -- (wrsy ((wrsy ((wrsy d (setT 1 (laidP a.1 a.2.1 a.2.2.2))).2) (mrkG [a.1 + 1])).2) (setT (plc a.1) (laidP a.1 a.2.1 a.2.2.2))).1 ≠ 0
            refine wp_seq_k fun K57 hK57 => ?_
            refine c_region ?_
            refine s_op (o_move (v := (.int .i64 ((wrsy ((wrsy ((wrsy d (setT 1 (laidP a.1 a.2.1 a.2.2.2))).2) (mrkG [a.1 + 1])).2) (setT (plc a.1) (laidP a.1 a.2.1 a.2.2.2))).1))) rfl ?_)
            refine s_op (o_assign (v := (.int .i64 ((wrsy ((wrsy ((wrsy d (setT 1 (laidP a.1 a.2.1 a.2.2.2))).2) (mrkG [a.1 + 1])).2) (setT (plc a.1) (laidP a.1 a.2.1 a.2.2.2))).1))) rfl ?_)
            refine s_nil ?_
            refine t_norm (hK57 _ _ ?_)
            refine wp_ret ?_
            refine t_ret (c_ret1 Tryz.results56  (v := (.int .i64 ((wrsy ((wrsy ((wrsy d (setT 1 (laidP a.1 a.2.1 a.2.2.2))).2) (mrkG [a.1 + 1])).2) (setT (plc a.1) (laidP a.1 a.2.1 a.2.2.2))).1))) rfl ?_)
            have hH58 : Has E w54 [sg50, [Hp.one pb (.cells #[(.bool ((wrsy ((wrsy ((wrsy d (setT 1 (laidP a.1 a.2.1 a.2.2.2))).2) (mrkG [a.1 + 1])).2) (setT (plc a.1) (laidP a.1 a.2.1 a.2.2.2))).2).p.off), (.bool ((wrsy ((wrsy ((wrsy d (setT 1 (laidP a.1 a.2.1 a.2.2.2))).2) (mrkG [a.1 + 1])).2) (setT (plc a.1) (laidP a.1 a.2.1 a.2.2.2))).2).p.armed), (.int .i64 ((wrsy ((wrsy ((wrsy d (setT 1 (laidP a.1 a.2.1 a.2.2.2))).2) (mrkG [a.1 + 1])).2) (setT (plc a.1) (laidP a.1 a.2.1 a.2.2.2))).2).p.left), (.int .i64 ((wrsy ((wrsy ((wrsy d (setT 1 (laidP a.1 a.2.1 a.2.2.2))).2) (mrkG [a.1 + 1])).2) (setT (plc a.1) (laidP a.1 a.2.1 a.2.2.2))).2).p.uses)] 101 (0, 0))], [Hp.one tb (.cells #[(.pointer (some ⟨db, 0, none⟩)), (.int .i64 n)] 98 (0, 0))], R] := ((((hH53.front 5 rfl).front 3 rfl).front 3 rfl).front 3 rfl).first 4 rfl
            have hE_ : (st1 d n a) = ((wrsy ((wrsy ((wrsy d (setT 1 (laidP a.1 a.2.1 a.2.2.2))).2) (mrkG [a.1 + 1])).2) (setT (plc a.1) (laidP a.1 a.2.1 a.2.2.2))).1, (wrsy ((wrsy ((wrsy d (setT 1 (laidP a.1 a.2.1 a.2.2.2))).2) (mrkG [a.1 + 1])).2) (setT (plc a.1) (laidP a.1 a.2.1 a.2.2.2))).2) := by rw [show (st1 d n a) = runs d (stG a.1 (laidP a.1 a.2.1 a.2.2.2)) from if_neg (fun g_ => g_.elim h12 h17)]; show runs d [setT 1 (laidP a.1 a.2.1 a.2.2.2), mrkG [a.1 + 1], setT (plc a.1) (laidP a.1 a.2.1 a.2.2.2), mrkG []] = _; rw [runs_go (Classical.not_not.1 h28), runs_go (Classical.not_not.1 h42), runs_stop h56]
            exact ⟨_, by rw [hE_], by rw [hE_]; exact hd51, by rw [hE_]; exact hH58⟩
          · -- not: (wrsy ((wrsy ((wrsy d (setT 1 (laidP a.1 a.2.1 a.2.2.2))).2) (mrkG [a.1 + 1])).2) (setT (plc a.1) (laidP a.1 a.2.1 a.2.2.2))).1 ≠ 0
            refine wp_skip ?_
            refine t_norm (hK45 _ _ ?_)
            refine wp_seq_k fun K59 hK59 => ?_
            refine c_region ?_
            refine s_op (o_move (v := (.pointer (some ⟨tb, 0, none⟩))) rfl ?_)
            refine s_op (o_callf (vs := #[(.pointer (some ⟨tb, 0, none⟩)), (.slice none 0 0)]) ca98 rfl (args2 rfl rfl) (tmark_c (d := (wrsy ((wrsy ((wrsy d (setT 1 (laidP a.1 a.2.1 a.2.2.2))).2) (mrkG [a.1 + 1])).2) (setT (plc a.1) (laidP a.1 a.2.1 a.2.2.2))).2) (n := n) (((hH53.front 2 rfl).front 2 rfl).front 2 rfl).all3 hd51 ((few_wrsy ((few_wrsy ((few_wrsy hf).mono (show _ ≤ k + 5 from Nat.le_refl _))).mono (show _ ≤ k + 5 + 2 from Nat.le_refl _))).mono (show _ ≤ k + 5 + 2 + 5 from Nat.le_refl _)) (by omega) (by rw [wrsy_zero (Classical.not_not.1 h56)]; exact LoOk.nil _) (by simp only [wrsy_len]; exact h4) (l := ([] : List Int)) (sl_nil 1) (by simp) (by rw [put_nil]; decide)) ?_)
            rintro _ w65 ⟨sg60, rfl, hd61, hX62⟩
            refine ⟨_, rfl, ?_⟩
            have hH63 : Has E w65 [sg60, [Hp.one pb (.cells #[(.bool ((wrsy ((wrsy ((wrsy ((wrsy d (setT 1 (laidP a.1 a.2.1 a.2.2.2))).2) (mrkG [a.1 + 1])).2) (setT (plc a.1) (laidP a.1 a.2.1 a.2.2.2))).2) (mrkG [])).2).p.off), (.bool ((wrsy ((wrsy ((wrsy ((wrsy d (setT 1 (laidP a.1 a.2.1 a.2.2.2))).2) (mrkG [a.1 + 1])).2) (setT (plc a.1) (laidP a.1 a.2.1 a.2.2.2))).2) (mrkG [])).2).p.armed), (.int .i64 ((wrsy ((wrsy ((wrsy ((wrsy d (setT 1 (laidP a.1 a.2.1 a.2.2.2))).2) (mrkG [a.1 + 1])).2) (setT (plc a.1) (laidP a.1 a.2.1 a.2.2.2))).2) (mrkG [])).2).p.left), (.int .i64 ((wrsy ((wrsy ((wrsy ((wrsy d (setT 1 (laidP a.1 a.2.1 a.2.2.2))).2) (mrkG [a.1 + 1])).2) (setT (plc a.1) (laidP a.1 a.2.1 a.2.2.2))).2) (mrkG [])).2).p.uses)] 101 (0, 0))], [Hp.one tb (.cells #[(.pointer (some ⟨db, 0, none⟩)), (.int .i64 n)] 98 (0, 0))], [Hp.one b33 (.cells #[(.int .i64 (a.1 + 1))] 3 (0, 0))], [Hp.one b2 (.cells #[(.int .i64 a.1), (.int .i64 a.2.1), a.2.2.1] 36 (0, 0))], R] := hX62.of_all3
            refine s_op (o_assign (v := (.int .i64 ((wrsy ((wrsy ((wrsy ((wrsy d (setT 1 (laidP a.1 a.2.1 a.2.2.2))).2) (mrkG [a.1 + 1])).2) (setT (plc a.1) (laidP a.1 a.2.1 a.2.2.2))).2) (mrkG [])).1))) rfl ?_)
            refine s_nil ?_
            refine t_norm (hK59 _ _ ?_)
            refine wp_ret ?_
            refine c_ret1 Tryz.results56  (v := (.int .i64 ((wrsy ((wrsy ((wrsy ((wrsy d (setT 1 (laidP a.1 a.2.1 a.2.2.2))).2) (mrkG [a.1 + 1])).2) (setT (plc a.1) (laidP a.1 a.2.1 a.2.2.2))).2) (mrkG [])).1))) rfl ?_
            have hH66 : Has E w65 [sg60, [Hp.one pb (.cells #[(.bool ((wrsy ((wrsy ((wrsy ((wrsy d (setT 1 (laidP a.1 a.2.1 a.2.2.2))).2) (mrkG [a.1 + 1])).2) (setT (plc a.1) (laidP a.1 a.2.1 a.2.2.2))).2) (mrkG [])).2).p.off), (.bool ((wrsy ((wrsy ((wrsy ((wrsy d (setT 1 (laidP a.1 a.2.1 a.2.2.2))).2) (mrkG [a.1 + 1])).2) (setT (plc a.1) (laidP a.1 a.2.1 a.2.2.2))).2) (mrkG [])).2).p.armed), (.int .i64 ((wrsy ((wrsy ((wrsy ((wrsy d (setT 1 (laidP a.1 a.2.1 a.2.2.2))).2) (mrkG [a.1 + 1])).2) (setT (plc a.1) (laidP a.1 a.2.1 a.2.2.2))).2) (mrkG [])).2).p.left), (.int .i64 ((wrsy ((wrsy ((wrsy ((wrsy d (setT 1 (laidP a.1 a.2.1 a.2.2.2))).2) (mrkG [a.1 + 1])).2) (setT (plc a.1) (laidP a.1 a.2.1 a.2.2.2))).2) (mrkG [])).2).p.uses)] 101 (0, 0))], [Hp.one tb (.cells #[(.pointer (some ⟨db, 0, none⟩)), (.int .i64 n)] 98 (0, 0))], R] := ((((hH63.front 5 rfl).front 3 rfl).front 3 rfl).front 3 rfl).first 4 rfl
            have hE_ : (st1 d n a) = ((wrsy ((wrsy ((wrsy ((wrsy d (setT 1 (laidP a.1 a.2.1 a.2.2.2))).2) (mrkG [a.1 + 1])).2) (setT (plc a.1) (laidP a.1 a.2.1 a.2.2.2))).2) (mrkG [])).1, (wrsy ((wrsy ((wrsy ((wrsy d (setT 1 (laidP a.1 a.2.1 a.2.2.2))).2) (mrkG [a.1 + 1])).2) (setT (plc a.1) (laidP a.1 a.2.1 a.2.2.2))).2) (mrkG [])).2) := by rw [show (st1 d n a) = runs d (stG a.1 (laidP a.1 a.2.1 a.2.2.2)) from if_neg (fun g_ => g_.elim h12 h17)]; show runs d [setT 1 (laidP a.1 a.2.1 a.2.2.2), mrkG [a.1 + 1], setT (plc a.1) (laidP a.1 a.2.1 a.2.2.2), mrkG []] = _; rw [runs_go (Classical.not_not.1 h28), runs_go (Classical.not_not.1 h42), runs_go (Classical.not_not.1 h56), runs_last]
            exact ⟨_, by rw [hE_], by rw [hE_]; exact hd61, by rw [hE_]; exact hH66⟩
end Go.Q
namespace Go.Q
open Go.Proofs
set_option linter.unusedVariables false
set_option maxRecDepth 100000
attribute [local irreducible] wpList OK Code.wp
set_option maxHeartbeats 4000000 in
theorem tstoreL_c {E w : World} {R sg : List Hp} {pb db tb : Nat} {d : Dv} {n : Int} (hH : Has E w [sg, [Hp.one pb (.cells #[(.bool d.p.off), (.bool d.p.armed), (.int .i64 d.p.left), (.int .i64 d.p.uses)] 101 (0, 0))], [Hp.one tb (.cells #[(.pointer (some ⟨db, 0, none⟩)), (.int .i64 n)] 98 (0, 0))], R]) (hd : DevAt pb sg db d.la d.lo) {k : Nat} (hf : Few d.p k) (hk : k ≤ 800000) (hlo : d.lo = []) (h4 : d.la.length ≤ 4096) (hg : CellsAt R 1 0 nibV) {v : Value} {l : List Pg} (hv : Sl R 3 v l.length (l.flatMap pgC)) (hok : ∀ a ∈ l, PgIn R a) (hll : l.length ≤ 1000) :
    Calls Tryz.prog 18 #[(.pointer (some ⟨tb, 0, none⟩)), v] w fun e w' => ∃ sg', e = .returned (.int .i64 (stL d n l).1) ∧ DevAt pb sg' db (stL d n l).2.la (stL d n l).2.lo ∧ Has E w' [sg', [Hp.one pb (.cells #[(.bool ((stL d n l).2).p.off), (.bool ((stL d n l).2).p.armed), (.int .i64 ((stL d n l).2).p.left), (.int .i64 ((stL d n l).2).p.uses)] 101 (0, 0))], [Hp.one tb (.cells #[(.pointer (some ⟨db, 0, none⟩)), (.int .i64 n)] 98 (0, 0))], R] := by
  have hn_ := hv.le
  refine c_enter (args := [(.pointer (some ⟨tb, 0, none⟩)), v]) Tryz.func18 rfl Tryz.ntmps18 (by simp) ?_
  refine wp_seq_k fun K1 hK1 => ?_
  refine c_region ?_
  refine s_op (o_assign (v := (.int .i64 0)) rfl ?_)
  refine s_nil ?_
  refine t_norm (hK1 _ _ ?_)
  refine wp_seq_k fun K2 hK2 => ?_
  refine wp_seq_k fun K3 hK3 => ?_
  refine c_region ?_
  refine s_op (o_move (v := (.pointer (some ⟨tb, 0, none⟩))) rfl ?_)
  refine s_op (o_pnil (p := some _) Tryz.underlying25 rfl rfl ?_)
  refine s_nil ?_
  refine t_norm (hK3 _ _ ?_)
  refine c_false rfl rfl ?_
  refine wp_skip ?_
  refine t_norm (hK2 _ _ ?_)
  refine wp_seq_k fun K4 hK4 => ?_
  refine wp_seq_k fun K5 hK5 => ?_
  refine c_region ?_
  refine s_op (o_move (v := v) rfl ?_)
  refine s_op (o_lenS Tryz.underlying31 rfl hv ?_)
  refine s_op (o_move (v := (.int .i64 0)) rfl ?_)
  refine s_nil ?_
  refine t_norm (hK5 _ _ ?_)
  refine wp_block ?_
  let I7 : Nat → (Nat → Value) → World → Prop := fun n__ r__ w__ => ∃ (i : Nat) (dc : Dv) (sgc : List Hp), n__ = l.length - i ∧ Has E w__ [sgc, [Hp.one pb (.cells #[(.bool dc.p.off), (.bool dc.p.armed), (.int .i64 dc.p.left), (.int .i64 dc.p.uses)] 101 (0, 0))], [Hp.one tb (.cells #[(.pointer (some ⟨db, 0, none⟩)), (.int .i64 n)] 98 (0, 0))], R] ∧ (i ≤ l.length) ∧ (DevAt pb sgc db dc.la dc.lo) ∧ (Few dc.p (k + 14 * i)) ∧ (dc.lo = []) ∧ (dc.la.length = d.la.length) ∧ (stL d n l = stL dc n (l.drop i)) ∧ r__ 0 = (.pointer (some ⟨tb, 0, none⟩)) ∧ r__ 1 = v ∧ r__ 9 = (.bool false) ∧ r__ 10 = v ∧ r__ 11 = (.int .i64 ((l.length : Nat) : Int)) ∧ r__ 12 = (.int .i64 (i : Int))
  refine c_loop I7 _ ⟨0, d, sg, rfl, hH, Nat.zero_le _, hd, hf, hlo, rfl, rfl, rfl, rfl, rfl, rfl, rfl, rfl⟩ ?_
  rintro n_ r10 w8 ⟨i, dc, sgc, rfl, hH9, hi, hdc, hfc, hlc, hnc, hst, e6_0, e6_1, e6_9, e6_10, e6_11, e6_12⟩
  refine wp_seq_k fun K11 hK11 => ?_
  refine c_region ?_
  refine s_op (o_lss (a := (i : Int)) (b := ((l.length : Nat) : Int)) e6_12 e6_11 ?_)
  refine s_nil ?_
  refine t_norm (hK11 _ _ ?_)
  refine wp_seq_k fun K12 hK12 => ?_
  refine c_cond rfl (fun h13 => ?_) (fun h13 => ?_)
  · -- (i : Int) < ((l.length : Nat) : Int)
    refine wp_skip ?_
    refine t_norm (hK12 _ _ ?_)
    refine wp_seq_k fun K14 hK14 => ?_
    refine wp_block ?_
    refine wp_seq_k fun K15 hK15 => ?_
    refine c_region ?_
    obtain ⟨x19, hx20⟩ : ∃ x_, l[((i : Int)).toNat]? = some x_ := get_some (by omega)
    refine s_op (o_indexF pgC_len Tryz.underlying31 ti36 e6_10 hv rfl e6_12 (by omega) hx20 fun b16 o17 hc18 => ?_)
    refine s_op (o_loadN (cs := [(.int .i64 x19.1), (.int .i64 x19.2.1), x19.2.2.1]) Tryz.underlying36 rfl ti36 rfl hH9 (seg_sub 3 rfl) hc18 ?_)
    refine s_op (o_alloc (cs := #[(.int .i64 0), (.int .i64 0), (.slice none 0 0)]) ti36 rfl hH9 fun b21 w22 hH23 => ?_)
    refine s_eff (o_storeN (vs := [(.int .i64 x19.1), (.int .i64 x19.2.1), x19.2.2.1]) (c' := #[(.int .i64 x19.1), (.int .i64 x19.2.1), x19.2.2.1]) ti36 rfl rfl rfl rfl (by intro u hu; simp only [List.mem_cons, List.not_mem_nil, or_false] at hu; rcases hu with rfl | rfl | rfl <;> first | rfl | exact (hok x19 (List.mem_of_getElem? hx20)).one) (by simp) (by kernel_rfl) (hH23.front 0 rfl) fun w24 hH25 => ?_)
    refine s_nil ?_
    refine t_norm (hK15 _ _ ?_)
    refine wp_seq_k fun K26 hK26 => ?_
    refine c_region ?_
    refine s_op (o_move (v := (.pointer (some ⟨tb, 0, none⟩))) e6_0 ?_)
    refine s_op (o_loadN (cs := [(.int .i64 x19.1), (.int .i64 x19.2.1), x19.2.2.1]) Tryz.underlying36 rfl ti36 rfl hH25 (seg_sub 0 rfl) (CellsAt.one rfl) ?_)
    refine s_op (o_callf (vs := #[(.pointer (some ⟨tb, 0, none⟩)), (.agg #[(.int .i64 x19.1), (.int .i64 x19.2.1), x19.2.2.1])]) ca56 rfl (args2 rfl rfl) (tstore_c (d := dc) (n := n) (((hH25.front 3 rfl).front 3 rfl).front 3 rfl).all3 hdc hfc (by omega) hlc (by rw [hnc]; exact h4) (hg.mono (seg_sub 1 rfl)) (a := x19) (PgIn.mono (hok x19 (List.mem_of_getElem? hx20)) (seg_sub 1 rfl))) ?_)
    rintro _ w31 ⟨sg27, rfl, hd28, hX29⟩
    refine ⟨_, rfl, ?_⟩
    have hH30 : Has E w31 [sg27, [Hp.one pb (.cells #[(.bool ((st1 dc n x19).2).p.off), (.bool ((st1 dc n x19).2).p.armed), (.int .i64 ((st1 dc n x19).2).p.left), (.int .i64 ((st1 dc n x19).2).p.uses)] 101 (0, 0))], [Hp.one tb (.cells #[(.pointer (some ⟨db, 0, none⟩)), (.int .i64 n)] 98 (0, 0))], [Hp.one b21 (.cells #[(.int .i64 x19.1), (.int .i64 x19.2.1), x19.2.2.1] 36 (0, 0))], R] := hX29.of_all3
    refine s_op (o_assign (v := (.int .i64 ((st1 dc n x19).1))) rfl ?_)
    refine s_nil ?_
    refine t_norm (hK26 _ _ ?_)
    refine wp_seq_k fun K32 hK32 => ?_
    refine c_region ?_
    refine s_op (o_move (v := (.int .i64 ((st1 dc n x19).1))) rfl ?_)
    refine s_op (o_neq (a := (st1 dc n x19).1) (b := 0) rfl rfl ?_)
    refine s_nil ?_
    refine t_norm (hK32 _ _ ?_)
    refine c_cond rfl (fun h33 => ?_) (fun h33 => ?_)
    · -- (st1 dc n x19).1 ≠ 0
      refine wp_seq_k fun K34 hK34 => ?_
      refine c_region ?_
      refine s_op (o_move (v := (.int .i64 ((st1 dc n x19).1))) rfl ?_)
      refine s_op (o_assign (v := (.int .i64 ((st1 dc n x19).1))) rfl ?_)
      refine s_nil ?_
      refine t_norm (hK34 _ _ ?_)
      refine wp_ret ?_
      refine b_ret (t_ret (t_ret (b_ret (t_ret (c_ret1 Tryz.results18  (v := (.int .i64 ((st1 dc n x19).1))) rfl ?_)))))
      have hH35 : Has E w31 [sg27, [Hp.one pb (.cells #[(.bool ((st1 dc n x19).2).p.off), (.bool ((st1 dc n x19).2).p.armed), (.int .i64 ((st1 dc n x19).2).p.left), (.int .i64 ((st1 dc n x19).2).p.uses)] 101 (0, 0))], [Hp.one tb (.cells #[(.pointer (some ⟨db, 0, none⟩)), (.int .i64 n)] 98 (0, 0))], R] := ((((hH30.front 4 rfl).front 3 rfl).front 3 rfl).front 3 rfl).first 4 rfl
      have hE_ : (stL d n l) = (st1 dc n x19) := stL_stop (show l[i]? = some _ from hx20) hst h33
      exact ⟨_, by rw [hE_], by rw [hE_]; exact hd28, by rw [hE_]; exact hH35⟩
    · -- not: (st1 dc n x19).1 ≠ 0
      refine wp_skip ?_
      refine b_norm ?_
      refine t_norm (hK14 _ _ ?_)
      refine c_region ?_
      refine s_op (o_add (a := (i : Int)) (b := 1) e6_12 rfl (w64 (by omega) (by omega)) ?_)
      refine s_op (o_move (v := (.int .i64 ((i : Int) + 1))) rfl ?_)
      refine s_nil ?_
      have hH36 : Has E w31 [sg27, [Hp.one pb (.cells #[(.bool ((st1 dc n x19).2).p.off), (.bool ((st1 dc n x19).2).p.armed), (.int .i64 ((st1 dc n x19).2).p.left), (.int .i64 ((st1 dc n x19).2).p.uses)] 101 (0, 0))], [Hp.one tb (.cells #[(.pointer (some ⟨db, 0, none⟩)), (.int .i64 n)] 98 (0, 0))], R] := ((((hH30.front 4 rfl).front 3 rfl).front 3 rfl).front 3 rfl).first 4 rfl
      refine t_norm ⟨l.length - (i + 1), _, rfl, ?_, ?_⟩
      · omega
      · exact ⟨(i + 1), ((st1 dc n x19).2), sg27, rfl, hH36, (by omega), (hd28), ((few_st1 hfc).mono (by omega)), (st1_zero hlc (Classical.not_not.1 h33)), (by rw [st1_len]; exact hnc), (stL_go (show l[i]? = some _ from hx20) hst (Classical.not_not.1 h33)), e6_0, e6_1, e6_9, e6_10, e6_11, rfl⟩
  · -- not: (i : Int) < ((l.length : Nat) : Int)
    refine wp_exit ?_
    refine t_exit (t_exit (x_in (?_)))
    refine t_norm (hK4 _ _ ?_)
    refine wp_seq_k fun K37 hK37 => ?_
    refine c_region ?_
    refine s_op (o_assign (v := (.int .i64 0)) rfl ?_)
    refine s_nil ?_
    refine t_norm (hK37 _ _ ?_)
    refine wp_ret ?_
    refine c_ret1 Tryz.results18  (v := (.int .i64 0)) rfl ?_
    have hE_ : (stL d n l) = (0, dc) := by rw [hst, List.drop_of_length_le (by omega)]; rfl
    exact ⟨_, by rw [hE_], by rw [hE_]; exact hdc, by rw [hE_]; exact hH9⟩
end Go.Q
namespace Go.Q
open Go.Proofs
set_option linter.unusedVariables false
set_option maxRecDepth 100000
attribute [local irreducible] wpList OK Code.wp
set_option maxHeartbeats 4000000 in
theorem tget_on {E w : World} {R sg : List Hp} {pb db tb : Nat} {d : Dv} {n : Int} (hH : Has E w [sg, [Hp.one pb (.cells #[(.bool d.p.off), (.bool d.p.armed), (.int .i64 d.p.left), (.int .i64 d.p.uses)] 101 (0, 0))], [Hp.one tb (.cells #[(.pointer (some ⟨db, 0, none⟩)), (.int .i64 n)] 98 (0, 0))], R]) (hd : DevAt pb sg db d.la d.lo) (hlo : d.lo = []) (hon : d.p.off = false) (h64 : Full64 d.la) {x : Int} (hx : 0 ≤ x ∧ x + 4 ≤ d.la.length) (h4 : d.la.length ≤ 4096) :
    Calls Tryz.prog 63 #[(.pointer (some ⟨tb, 0, none⟩)), (.int .i64 x)] w fun e w' => e = .returned (.tuple #[S (pgB d.la x), .int .i64 0]) ∧ Has E w' [sg, [Hp.one pb (.cells #[(.bool d.p.off), (.bool d.p.armed), (.int .i64 d.p.left), (.int .i64 d.p.uses)] 101 (0, 0))], [Hp.one tb (.cells #[(.pointer (some ⟨db, 0, none⟩)), (.int .i64 n)] 98 (0, 0))], R] := by
  refine c_enter (args := [(.pointer (some ⟨tb, 0, none⟩)), (.int .i64 x)]) Tryz.func63 rfl Tryz.ntmps63 (by simp) ?_
  refine wp_seq_k fun K1 hK1 => ?_
  refine c_region ?_
  refine s_op (o_assign (v := (S ([] : List UInt8))) rfl ?_)
  refine s_op (o_assign (v := (.int .i64 0)) rfl ?_)
  refine s_nil ?_
  refine t_norm (hK1 _ _ ?_)
  refine wp_seq_k fun K2 hK2 => ?_
  refine c_region ?_
  refine s_op (o_alloc (cs := #[(.pointer none), (.slice none 0 0)]) ti145 rfl hH fun b3 w4 hH5 => ?_)
  refine s_nil ?_
  refine t_norm (hK2 _ _ ?_)
  refine wp_seq_k fun K6 hK6 => ?_
  refine wp_seq_k fun K7 hK7 => ?_
  refine c_region ?_
  refine s_op (o_move (v := (.int .i64 0)) rfl ?_)
  refine s_nil ?_
  refine t_norm (hK7 _ _ ?_)
  refine wp_block ?_
  refine u_loop 5 (u_round ?_)
  refine wp_seq_k fun K8 hK8 => ?_
  refine c_region ?_
  refine s_op (o_lss (a := 0) (b := 4) rfl rfl ?_)
  refine s_nil ?_
  refine t_norm (hK8 _ _ ?_)
  refine wp_seq_k fun K9 hK9 => ?_
  refine c_true rfl rfl ?_
  refine wp_skip ?_
  refine t_norm (hK9 _ _ ?_)
  refine wp_seq_k fun K10 hK10 => ?_
  refine wp_block ?_
  refine wp_seq_k fun K11 hK11 => ?_
  refine c_region ?_
  refine s_op (o_move (v := (.int .i64 0)) rfl ?_)
  refine s_op (o_assign (v := (.int .i64 0)) rfl ?_)
  refine s_nil ?_
  refine t_norm (hK11 _ _ ?_)
  refine wp_seq_k fun K12 hK12 => ?_
  refine c_region ?_
  refine s_op (o_move (v := (.pointer (some ⟨tb, 0, none⟩))) rfl ?_)
  refine s_op (o_nilCheck rfl ?_)
  refine s_op (o_fieldAddr (k := 0) (fun _ => by kernel_rfl) rfl ?_)
  refine s_op (o_load1 (v := (.pointer (some ⟨db, 0, none⟩))) Tryz.underlying29 rfl rfl hH5 (seg_sub 3 rfl) (CellsAt.one rfl) ?_)
  refine s_op (o_move (v := (.int .i64 x)) rfl ?_)
  refine s_op (o_move (v := (.int .i64 0)) rfl ?_)
  refine s_op (o_add (a := x) (b := 0) (c := x) rfl rfl (by rw [Int.add_zero]; exact w64 (by omega) (by omega)) ?_)
  refine s_op (o_callf (vs := #[(.pointer (some ⟨db, 0, none⟩)), (.int .i64 x)]) ca32 rfl (args2 rfl rfl) (read_d (p := d.p) (la := d.la) (lo := d.lo) ((hH5.front 2 rfl).front 2 rfl).all2 hd x) ?_)
  rintro _ w15 ⟨rfl, hX13⟩
  refine ⟨_, rfl, ?_⟩
  have hH14 : Has E w15 [sg, [Hp.one pb (.cells #[(.bool d.p.off), (.bool d.p.armed), (.int .i64 d.p.left), (.int .i64 d.p.uses)] 101 (0, 0))], [Hp.one b3 (.cells #[(.pointer none), (.slice none 0 0)] 145 (0, 0))], [Hp.one tb (.cells #[(.pointer (some ⟨db, 0, none⟩)), (.int .i64 n)] 98 (0, 0))], R] := hX13.of_all2
  refine s_op (o_move (v := (.tuple #[(S (readS d.p d.la d.lo x)), (.int .i64 (readE d.p d.la x))])) rfl ?_)
  refine s_op (o_extract (v := (S (readS d.p d.la d.lo x))) rfl rfl ?_)
  refine s_op (o_extract (v := (.int .i64 (readE d.p d.la x))) rfl rfl ?_)
  refine s_op (o_assign (v := (S (readS d.p d.la d.lo x))) rfl ?_)
  refine s_op (o_assign (v := (.int .i64 (readE d.p d.la x))) rfl ?_)
  refine s_nil ?_
  refine t_norm (hK12 _ _ ?_)
  refine wp_seq_k fun K16 hK16 => ?_
  refine wp_seq_k fun K17 hK17 => ?_
  refine c_region ?_
  refine s_op (o_move (v := (.int .i64 (readE d.p d.la x))) rfl ?_)
  refine s_op (o_neq (a := readE d.p d.la x) (b := 0) rfl rfl ?_)
  refine s_nil ?_
  refine t_norm (hK17 _ _ ?_)
  refine c_cond rfl (fun h18 => ?_) (fun h18 => ?_)
  · -- readE d.p d.la x ≠ 0
    obtain ⟨hs19_, he19_⟩ := rd_sec (d := d) (n := x) hlo hon ⟨by omega, by omega⟩
    have hl19_ : (readS d.p d.la d.lo x).length = 64 := by rw [hs19_]; exact sec_len h64 ⟨by omega, by omega⟩
    exact absurd he19_ h18
  · -- not: readE d.p d.la x ≠ 0
    obtain ⟨hs20_, he20_⟩ := rd_sec (d := d) (n := x) hlo hon ⟨by omega, by omega⟩
    have hl20_ : (readS d.p d.la d.lo x).length = 64 := by rw [hs20_]; exact sec_len h64 ⟨by omega, by omega⟩
    refine wp_skip ?_
    refine t_norm (hK16 _ _ ?_)
    refine c_region ?_
    refine s_op (o_move (v := (S (readS d.p d.la d.lo x))) rfl ?_)
    refine s_op (o_callf (vs := #[(.pointer (some ⟨b3, 0, none⟩)), (S (readS d.p d.la d.lo x))]) ca103 rfl (args2 rfl rfl) (bws (hH14.front 2 rfl).all1 (Bld.new b3) (readS d.p d.la d.lo x) (by simp only [List.length_append, List.length_nil]; omega)) ?_)
    rintro _ w25 ⟨sg21, rfl, hB22, hX23⟩
    refine ⟨_, rfl, ?_⟩
    have hH24 : Has E w25 [sg21, sg, [Hp.one pb (.cells #[(.bool d.p.off), (.bool d.p.armed), (.int .i64 d.p.left), (.int .i64 d.p.uses)] 101 (0, 0))], [Hp.one tb (.cells #[(.pointer (some ⟨db, 0, none⟩)), (.int .i64 n)] 98 (0, 0))], R] := hX23.of_all1
    refine s_nil ?_
    refine b_norm ?_
    refine t_norm (hK10 _ _ ?_)
    refine c_region ?_
    refine s_op (o_add (a := 0) (b := 1) (c := 1) rfl rfl (by decide) ?_)
    refine s_op (o_move (v := (.int .i64 1)) rfl ?_)
    refine s_nil ?_
    refine t_norm (u_round ?_)
    refine wp_seq_k fun K26 hK26 => ?_
    refine c_region ?_
    refine s_op (o_lss (a := 1) (b := 4) rfl rfl ?_)
    refine s_nil ?_
    refine t_norm (hK26 _ _ ?_)
    refine wp_seq_k fun K27 hK27 => ?_
    refine c_true rfl rfl ?_
    refine wp_skip ?_
    refine t_norm (hK27 _ _ ?_)
    refine wp_seq_k fun K28 hK28 => ?_
    refine wp_block ?_
    refine wp_seq_k fun K29 hK29 => ?_
    refine c_region ?_
    refine s_op (o_move (v := (.int .i64 1)) rfl ?_)
    refine s_op (o_assign (v := (.int .i64 1)) rfl ?_)
    refine s_nil ?_
    refine t_norm (hK29 _ _ ?_)
    refine wp_seq_k fun K30 hK30 => ?_
    refine c_region ?_
    refine s_op (o_move (v := (.pointer (some ⟨tb, 0, none⟩))) rfl ?_)
    refine s_op (o_nilCheck rfl ?_)
    refine s_op (o_fieldAddr (k := 0) (fun _ => by kernel_rfl) rfl ?_)
    refine s_op (o_load1 (v := (.pointer (some ⟨db, 0, none⟩))) Tryz.underlying29 rfl rfl hH24 (seg_sub 3 rfl) (CellsAt.one rfl) ?_)
    refine s_op (o_move (v := (.int .i64 x)) rfl ?_)
    refine s_op (o_move (v := (.int .i64 1)) rfl ?_)
    refine s_op (o_add (a := x) (b := 1) rfl rfl (w64 (by omega) (by omega)) ?_)
    refine s_op (o_callf (vs := #[(.pointer (some ⟨db, 0, none⟩)), (.int .i64 (x + 1))]) ca32 rfl (args2 rfl rfl) (read_d (p := d.p) (la := d.la) (lo := d.lo) ((hH24.front 2 rfl).front 2 rfl).all2 hd (x + 1)) ?_)
    rintro _ w33 ⟨rfl, hX31⟩
    refine ⟨_, rfl, ?_⟩
    have hH32 : Has E w33 [sg, [Hp.one pb (.cells #[(.bool d.p.off), (.bool d.p.armed), (.int .i64 d.p.left), (.int .i64 d.p.uses)] 101 (0, 0))], sg21, [Hp.one tb (.cells #[(.pointer (some ⟨db, 0, none⟩)), (.int .i64 n)] 98 (0, 0))], R] := hX31.of_all2
    refine s_op (o_move (v := (.tuple #[(S (readS d.p d.la d.lo (x + 1))), (.int .i64 (readE d.p d.la (x + 1)))])) rfl ?_)
    refine s_op (o_extract (v := (S (readS d.p d.la d.lo (x + 1)))) rfl rfl ?_)
    refine s_op (o_extract (v := (.int .i64 (readE d.p d.la (x + 1)))) rfl rfl ?_)
    refine s_op (o_assign (v := (S (readS d.p d.la d.lo (x + 1)))) rfl ?_)
    refine s_op (o_assign (v := (.int .i64 (readE d.p d.la (x + 1)))) rfl ?_)
    refine s_nil ?_
    refine t_norm (hK30 _ _ ?_)
    refine wp_seq_k fun K34 hK34 => ?_
    refine wp_seq_k fun K35 hK35 => ?_
    refine c_region ?_
    refine s_op (o_move (v := (.int .i64 (readE d.p d.la (x + 1)))) rfl ?_)
    refine s_op (o_neq (a := readE d.p d.la (x + 1)) (b := 0) rfl rfl ?_)
    refine s_nil ?_
    refine t_norm (hK35 _ _ ?_)
    refine c_cond rfl (fun h36 => ?_) (fun h36 => ?_)
    · -- readE d.p d.la (x + 1) ≠ 0
      obtain ⟨hs37_, he37_⟩ := rd_sec (d := d) (n := x + 1) hlo hon ⟨by omega, by omega⟩
      have hl37_ : (readS d.p d.la d.lo (x + 1)).length = 64 := by rw [hs37_]; exact sec_len h64 ⟨by omega, by omega⟩
      exact absurd he37_ h36
    · -- not: readE d.p d.la (x + 1) ≠ 0
      obtain ⟨hs38_, he38_⟩ := rd_sec (d := d) (n := x + 1) hlo hon ⟨by omega, by omega⟩
      have hl38_ : (readS d.p d.la d.lo (x + 1)).length = 64 := by rw [hs38_]; exact sec_len h64 ⟨by omega, by omega⟩
      refine wp_skip ?_
      refine t_norm (hK34 _ _ ?_)
      refine c_region ?_
      refine s_op (o_move (v := (S (readS d.p d.la d.lo (x + 1)))) rfl ?_)
      refine s_op (o_callf (vs := #[(.pointer (some ⟨b3, 0, none⟩)), (S (readS d.p d.la d.lo (x + 1)))]) ca103 rfl (args2 rfl rfl) (bws (hH32.front 2 rfl).all1 hB22 (readS d.p d.la d.lo (x + 1)) (by simp only [List.length_append, List.length_nil]; omega)) ?_)
      rintro _ w43 ⟨sg39, rfl, hB40, hX41⟩
      refine ⟨_, rfl, ?_⟩
      have hH42 : Has E w43 [sg39, sg, [Hp.one pb (.cells #[(.bool d.p.off), (.bool d.p.armed), (.int .i64 d.p.left), (.int .i64 d.p.uses)] 101 (0, 0))], [Hp.one tb (.cells #[(.pointer (some ⟨db, 0, none⟩)), (.int .i64 n)] 98 (0, 0))], R] := hX41.of_all1
      refine s_nil ?_
      refine b_norm ?_
      refine t_norm (hK28 _ _ ?_)
      refine c_region ?_
      refine s_op (o_add (a := 1) (b := 1) (c := 2) rfl rfl (by decide) ?_)
      refine s_op (o_move (v := (.int .i64 2)) rfl ?_)
      refine s_nil ?_
      refine t_norm (u_round ?_)
      refine wp_seq_k fun K44 hK44 => ?_
      refine c_region ?_
      refine s_op (o_lss (a := 2) (b := 4) rfl rfl ?_)
      refine s_nil ?_
      refine t_norm (hK44 _ _ ?_)
      refine wp_seq_k fun K45 hK45 => ?_
      refine c_true rfl rfl ?_
      refine wp_skip ?_
      refine t_norm (hK45 _ _ ?_)
      refine wp_seq_k fun K46 hK46 => ?_
      refine wp_block ?_
      refine wp_seq_k fun K47 hK47 => ?_
      refine c_region ?_
      refine s_op (o_move (v := (.int .i64 2)) rfl ?_)
      refine s_op (o_assign (v := (.int .i64 2)) rfl ?_)
      refine s_nil ?_
      refine t_norm (hK47 _ _ ?_)
      refine wp_seq_k fun K48 hK48 => ?_
      refine c_region ?_
      refine s_op (o_move (v := (.pointer (some ⟨tb, 0, none⟩))) rfl ?_)
      refine s_op (o_nilCheck rfl ?_)
      refine s_op (o_fieldAddr (k := 0) (fun _ => by kernel_rfl) rfl ?_)
      refine s_op (o_load1 (v := (.pointer (some ⟨db, 0, none⟩))) Tryz.underlying29 rfl rfl hH42 (seg_sub 3 rfl) (CellsAt.one rfl) ?_)
      refine s_op (o_move (v := (.int .i64 x)) rfl ?_)
      refine s_op (o_move (v := (.int .i64 2)) rfl ?_)
      refine s_op (o_add (a := x) (b := 2) rfl rfl (w64 (by omega) (by omega)) ?_)
      refine s_op (o_callf (vs := #[(.pointer (some ⟨db, 0, none⟩)), (.int .i64 (x + 2))]) ca32 rfl (args2 rfl rfl) (read_d (p := d.p) (la := d.la) (lo := d.lo) ((hH42.front 2 rfl).front 2 rfl).all2 hd (x + 2)) ?_)
      rintro _ w51 ⟨rfl, hX49⟩
      refine ⟨_, rfl, ?_⟩
      have hH50 : Has E w51 [sg, [Hp.one pb (.cells #[(.bool d.p.off), (.bool d.p.armed), (.int .i64 d.p.left), (.int .i64 d.p.uses)] 101 (0, 0))], sg39, [Hp.one tb (.cells #[(.pointer (some ⟨db, 0, none⟩)), (.int .i64 n)] 98 (0, 0))], R] := hX49.of_all2
      refine s_op (o_move (v := (.tuple #[(S (readS d.p d.la d.lo (x + 2))), (.int .i64 (readE d.p d.la (x + 2)))])) rfl ?_)
      refine s_op (o_extract (v := (S (readS d.p d.la d.lo (x + 2)))) rfl rfl ?_)
      refine s_op (o_extract (v := (.int .i64 (readE d.p d.la (x + 2)))) rfl rfl ?_)
      refine s_op (o_assign (v := (S (readS d.p d.la d.lo (x + 2)))) rfl ?_)
      refine s_op (o_assign (v := (.int .i64 (readE d.p d.la (x + 2)))) rfl ?_)
      refine s_nil ?_
      refine t_norm (hK48 _ _ ?_)
      refine wp_seq_k fun K52 hK52 => ?_
      refine wp_seq_k fun K53 hK53 => ?_
      refine c_region ?_
      refine s_op (o_move (v := (.int .i64 (readE d.p d.la (x + 2)))) rfl ?_)
      refine s_op (o_neq (a := readE d.p d.la (x + 2)) (b := 0) rfl rfl ?_)
      refine s_nil ?_
      refine t_norm (hK53 _ _ ?_)
      refine c_cond rfl (fun h54 => ?_) (fun h54 => ?_)
      · -- readE d.p d.la (x + 2) ≠ 0
        obtain ⟨hs55_, he55_⟩ := rd_sec (d := d) (n := x + 2) hlo hon ⟨by omega, by omega⟩
        have hl55_ : (readS d.p d.la d.lo (x + 2)).length = 64 := by rw [hs55_]; exact sec_len h64 ⟨by omega, by omega⟩
        exact absurd he55_ h54
      · -- not: readE d.p d.la (x + 2) ≠ 0
        obtain ⟨hs56_, he56_⟩ := rd_sec (d := d) (n := x + 2) hlo hon ⟨by omega, by omega⟩
        have hl56_ : (readS d.p d.la d.lo (x + 2)).length = 64 := by rw [hs56_]; exact sec_len h64 ⟨by omega, by omega⟩
        refine wp_skip ?_
        refine t_norm (hK52 _ _ ?_)
        refine c_region ?_
        refine s_op (o_move (v := (S (readS d.p d.la d.lo (x + 2)))) rfl ?_)
        refine s_op (o_callf (vs := #[(.pointer (some ⟨b3, 0, none⟩)), (S (readS d.p d.la d.lo (x + 2)))]) ca103 rfl (args2 rfl rfl) (bws (hH50.front 2 rfl).all1 hB40 (readS d.p d.la d.lo (x + 2)) (by simp only [List.length_append, List.length_nil]; omega)) ?_)
        rintro _ w61 ⟨sg57, rfl, hB58, hX59⟩
        refine ⟨_, rfl, ?_⟩
        have hH60 : Has E w61 [sg57, sg, [Hp.one pb (.cells #[(.bool d.p.off), (.bool d.p.armed), (.int .i64 d.p.left), (.int .i64 d.p.uses)] 101 (0, 0))], [Hp.one tb (.cells #[(.pointer (some ⟨db, 0, none⟩)), (.int .i64 n)] 98 (0, 0))], R] := hX59.of_all1
        refine s_nil ?_
        refine b_norm ?_
        refine t_norm (hK46 _ _ ?_)
        refine c_region ?_
        refine s_op (o_add (a := 2) (b := 1) (c := 3) rfl rfl (by decide) ?_)
        refine s_op (o_move (v := (.int .i64 3)) rfl ?_)
        refine s_nil ?_
        refine t_norm (u_round ?_)
        refine wp_seq_k fun K62 hK62 => ?_
        refine c_region ?_
        refine s_op (o_lss (a := 3) (b := 4) rfl rfl ?_)
        refine s_nil ?_
        refine t_norm (hK62 _ _ ?_)
        refine wp_seq_k fun K63 hK63 => ?_
        refine c_true rfl rfl ?_
        refine wp_skip ?_
        refine t_norm (hK63 _ _ ?_)
        refine wp_seq_k fun K64 hK64 => ?_
        refine wp_block ?_
        refine wp_seq_k fun K65 hK65 => ?_
        refine c_region ?_
        refine s_op (o_move (v := (.int .i64 3)) rfl ?_)
        refine s_op (o_assign (v := (.int .i64 3)) rfl ?_)
        refine s_nil ?_
        refine t_norm (hK65 _ _ ?_)
        refine wp_seq_k fun K66 hK66 => ?_
        refine c_region ?_
        refine s_op (o_move (v := (.pointer (some ⟨tb, 0, none⟩))) rfl ?_)
        refine s_op (o_nilCheck rfl ?_)
        refine s_op (o_fieldAddr (k := 0) (fun _ => by kernel_rfl) rfl ?_)
        refine s_op (o_load1 (v := (.pointer (some ⟨db, 0, none⟩))) Tryz.underlying29 rfl rfl hH60 (seg_sub 3 rfl) (CellsAt.one rfl) ?_)
        refine s_op (o_move (v := (.int .i64 x)) rfl ?_)
        refine s_op (o_move (v := (.int .i64 3)) rfl ?_)
        refine s_op (o_add (a := x) (b := 3) rfl rfl (w64 (by omega) (by omega)) ?_)
        refine s_op (o_callf (vs := #[(.pointer (some ⟨db, 0, none⟩)), (.int .i64 (x + 3))]) ca32 rfl (args2 rfl rfl) (read_d (p := d.p) (la := d.la) (lo := d.lo) ((hH60.front 2 rfl).front 2 rfl).all2 hd (x + 3)) ?_)
        rintro _ w69 ⟨rfl, hX67⟩
        refine ⟨_, rfl, ?_⟩
        have hH68 : Has E w69 [sg, [Hp.one pb (.cells #[(.bool d.p.off), (.bool d.p.armed), (.int .i64 d.p.left), (.int .i64 d.p.uses)] 101 (0, 0))], sg57, [Hp.one tb (.cells #[(.pointer (some ⟨db, 0, none⟩)), (.int .i64 n)] 98 (0, 0))], R] := hX67.of_all2
        refine s_op (o_move (v := (.tuple #[(S (readS d.p d.la d.lo (x + 3))), (.int .i64 (readE d.p d.la (x + 3)))])) rfl ?_)
        refine s_op (o_extract (v := (S (readS d.p d.la d.lo (x + 3)))) rfl rfl ?_)
        refine s_op (o_extract (v := (.int .i64 (readE d.p d.la (x + 3)))) rfl rfl ?_)
        refine s_op (o_assign (v := (S (readS d.p d.la d.lo (x + 3)))) rfl ?_)
        refine s_op (o_assign (v := (.int .i64 (readE d.p d.la (x + 3)))) rfl ?_)
        refine s_nil ?_
        refine t_norm (hK66 _ _ ?_)
        refine wp_seq_k fun K70 hK70 => ?_
        refine wp_seq_k fun K71 hK71 => ?_
        refine c_region ?_
        refine s_op (o_move (v := (.int .i64 (readE d.p d.la (x + 3)))) rfl ?_)
        refine s_op (o_neq (a := readE d.p d.la (x + 3)) (b := 0) rfl rfl ?_)
        refine s_nil ?_
        refine t_norm (hK71 _ _ ?_)
        refine c_cond rfl (fun h72 => ?_) (fun h72 => ?_)
        · -- readE d.p d.la (x + 3) ≠ 0
          obtain ⟨hs73_, he73_⟩ := rd_sec (d := d) (n := x + 3) hlo hon ⟨by omega, by omega⟩
          have hl73_ : (readS d.p d.la d.lo (x + 3)).length = 64 := by rw [hs73_]; exact sec_len h64 ⟨by omega, by omega⟩
          exact absurd he73_ h72
        · -- not: readE d.p d.la (x + 3) ≠ 0
          obtain ⟨hs74_, he74_⟩ := rd_sec (d := d) (n := x + 3) hlo hon ⟨by omega, by omega⟩
          have hl74_ : (readS d.p d.la d.lo (x + 3)).length = 64 := by rw [hs74_]; exact sec_len h64 ⟨by omega, by omega⟩
          refine wp_skip ?_
          refine t_norm (hK70 _ _ ?_)
          refine c_region ?_
          refine s_op (o_move (v := (S (readS d.p d.la d.lo (x + 3)))) rfl ?_)
          refine s_op (o_callf (vs := #[(.pointer (some ⟨b3, 0, none⟩)), (S (readS d.p d.la d.lo (x + 3)))]) ca103 rfl (args2 rfl rfl) (bws (hH68.front 2 rfl).all1 hB58 (readS d.p d.la d.lo (x + 3)) (by simp only [List.length_append, List.length_nil]; omega)) ?_)
          rintro _ w79 ⟨sg75, rfl, hB76, hX77⟩
          refine ⟨_, rfl, ?_⟩
          have hH78 : Has E w79 [sg75, sg, [Hp.one pb (.cells #[(.bool d.p.off), (.bool d.p.armed), (.int .i64 d.p.left), (.int .i64 d.p.uses)] 101 (0, 0))], [Hp.one tb (.cells #[(.pointer (some ⟨db, 0, none⟩)), (.int .i64 n)] 98 (0, 0))], R] := hX77.of_all1
          refine s_nil ?_
          refine b_norm ?_
          refine t_norm (hK64 _ _ ?_)
          refine c_region ?_
          refine s_op (o_add (a := 3) (b := 1) (c := 4) rfl rfl (by decide) ?_)
          refine s_op (o_move (v := (.int .i64 4)) rfl ?_)
          refine s_nil ?_
          refine t_norm (u_round ?_)
          refine wp_seq_k fun K80 hK80 => ?_
          refine c_region ?_
          refine s_op (o_lss (a := 4) (b := 4) rfl rfl ?_)
          refine s_nil ?_
          refine t_norm (hK80 _ _ ?_)
          refine wp_seq_k fun K81 hK81 => ?_
          refine c_false rfl rfl ?_
          refine wp_exit ?_
          refine t_exit (t_exit (x_in (?_)))
          refine t_norm (hK6 _ _ ?_)
          refine wp_seq_k fun K82 hK82 => ?_
          refine c_region ?_
          refine s_op (o_callf (vs := #[(.pointer (some ⟨b3, 0, none⟩))]) ca104 rfl (args1 rfl) (bstrK hH78.all1 hB76) ?_)
          rintro _ w88 ⟨a83, p84, c85, rfl, hX86⟩
          refine ⟨_, rfl, ?_⟩
          have hH87 : Has E w88 [[Hp.one b3 (.cells #[a83, (.slice p84 ((((([] : Bs) ++ (readS d.p d.la d.lo x)) ++ (readS d.p d.la d.lo (x + 1))) ++ (readS d.p d.la d.lo (x + 2))) ++ (readS d.p d.la d.lo (x + 3))).length c85)] 145 (0, 0))], sg, [Hp.one pb (.cells #[(.bool d.p.off), (.bool d.p.armed), (.int .i64 d.p.left), (.int .i64 d.p.uses)] 101 (0, 0))], [Hp.one tb (.cells #[(.pointer (some ⟨db, 0, none⟩)), (.int .i64 n)] 98 (0, 0))], R] := hX86.of_all1
          refine s_op (o_assign (v := (S ((((([] : Bs) ++ (readS d.p d.la d.lo x)) ++ (readS d.p d.la d.lo (x + 1))) ++ (readS d.p d.la d.lo (x + 2))) ++ (readS d.p d.la d.lo (x + 3))))) rfl ?_)
          refine s_op (o_assign (v := (.int .i64 0)) rfl ?_)
          refine s_nil ?_
          refine t_norm (hK82 _ _ ?_)
          refine wp_ret ?_
          refine c_ret2 Tryz.results63  (v := (S ((((([] : Bs) ++ (readS d.p d.la d.lo x)) ++ (readS d.p d.la d.lo (x + 1))) ++ (readS d.p d.la d.lo (x + 2))) ++ (readS d.p d.la d.lo (x + 3))))) rfl (x := (.int .i64 0)) rfl ?_
          have hH89 : Has E w88 [sg, [Hp.one pb (.cells #[(.bool d.p.off), (.bool d.p.armed), (.int .i64 d.p.left), (.int .i64 d.p.uses)] 101 (0, 0))], [Hp.one tb (.cells #[(.pointer (some ⟨db, 0, none⟩)), (.int .i64 n)] 98 (0, 0))], R] := ((((hH87.front 4 rfl).front 4 rfl).front 4 rfl).front 4 rfl).first 4 rfl
          exact ⟨by rw [hs20_, hs38_, hs56_, hs74_]; unfold pgB; simp only [List.nil_append, List.append_assoc], hH89⟩
end Go.Q
namespace Go.Q
section
variable {H : Type} {enc : TypeId × Value → H} {P : Program} {w : World} {t e : TypeId} {cs : List Value}
/-- These cells read as a value of the type. -/
def Rd (enc : TypeId × Value → H) (P : Program) (w : World) (t : TypeId) (cs : List Value) : Prop := ∃ fuel x, DataW.trod enc P w 0 (fun _ => true) true fuel t cs = some x
theorem rd_of {v : Value} {d : DataW H} {ps : List MemPlace} (h : DataW.Trod enc P w 0 (fun _ => true) true t v d ps) : Rd enc P w t v.cells.toList := ⟨h.choose, _, h.choose_spec⟩
theorem rd_int {k : IntKind} (ht : P.underlying t = some (.int k)) (h : Rd enc P w t cs) : ∃ n, cs = [.int k n] ∧ (Lit.int k n).wf = true := by
  obtain ⟨f, x, h⟩ := h
  obtain ⟨n, h1, _, h2⟩ := DataW.trod_int ht h
  exact ⟨n, h1, h2⟩
theorem rd_i64 (ht : P.underlying t = some (.int .i64)) (h : Rd enc P w t cs) : ∃ n, cs = [iV n] ∧ (-9223372036854775808 : Int) ≤ n ∧ n ≤ 9223372036854775807 := by
  obtain ⟨n, h1, h2⟩ := rd_int ht h
  exact ⟨n, h1, wf_i64 h2⟩
theorem rd_string (ht : P.underlying t = some .string) (h : Rd enc P w t cs) : ∃ l : List UInt8, cs = [S l] ∧ l.length ≤ 9223372036854775807 := by
  obtain ⟨f, x, h⟩ := h
  obtain ⟨s, h1, _, h2⟩ := DataW.trod_string ht h
  exact ⟨s.data.toList, by rw [h1, S_of], by rw [show maxLen = 9223372036854775807 from rfl] at h2; exact h2⟩
/-- a value of a type of one cell is its cell -/
theorem val_one {r : Reach} {b0 : Nat} {v u : Value} (hn : match P.underlying t with | some (.struct _) => False | some (.array _ _) => False | _ => True) (hval : Value.okWide P w r b0 t v) (h : v.cells.toList = [u]) : v = u := by
  cases v with
  | agg c =>
    unfold Value.okWide at hval
    cases hu : P.underlying t with
    | none => rw [hu] at hval; simp [Cell.okWide, Cell.ok, hu] at hval
    | some d => rw [hu] at hn hval; cases d <;> first | exact hn.elim | (simp [Cell.okWide, Cell.ok, hu] at hval)
  | _ => simpa [Value.cells] using h
end
end Go.Q
namespace Go.Q
section
variable {H : Type} {enc : TypeId × Value → H} {P : Program} {w : World} {t e : TypeId} {cs : List Value}
/-- These cells read as a value of the type, and each text and row in it is within the reach. -/
def RdS (enc : TypeId × Value → H) (P : Program) (w : World) (t : TypeId) (cs : List Value) : Prop := ∃ fuel x, DataW.trod enc P w 0 (fun _ => true) true fuel t cs = some x ∧ ∀ n ∈ DataW.weights P t x.1, n ≤ reachBytes
theorem RdS.rd (h : RdS enc P w t cs) : Rd enc P w t cs := let ⟨f, x, h, _⟩ := h; ⟨f, x, h⟩
end
end Go.Q
namespace Go.Q
structure DAct where
  kind : Int
  n : Int
  other : Bool
  dv : Value
  data : List Bs
  kv : Value
  keep : List Int
/-- An act whose rows read. -/
def DaOk (R : List Hp) (a : DAct) : Prop := Sl R 1 a.dv a.data.length (a.data.map sV) ∧ Ints R a.kv a.keep ∧ (∀ t ∈ a.data, t.length ≤ 140737488355328) ∧ -9223372036854775808 ≤ a.n ∧ a.n ≤ 9223372036854775807
theorem DaOk.mono {R R' : List Hp} {a : DAct} (h : DaOk R a) (hs : R ⊆ R') : DaOk R' a := ⟨h.1.mono hs, h.2.1.mono hs, h.2.2⟩
end Go.Q
namespace Go.Q
structure AAct where
  kind : Int
  at_ : Int
  size : Int
  dv : Value
  data : List Bs
  kv : Value
  keep : List Int
def AaOk (R : List Hp) (a : AAct) : Prop := Sl R 1 a.dv a.data.length (a.data.map sV) ∧ Ints R a.kv a.keep ∧ (∀ t ∈ a.data, t.length ≤ 140737488355328)
theorem AaOk.mono {R R' : List Hp} {a : AAct} (h : AaOk R a) (hs : R ⊆ R') : AaOk R' a := ⟨h.1.mono hs, h.2.1.mono hs, h.2.2⟩
end Go.Q
namespace Go.Q
open Go.Proofs Go.Shelf
set_option maxRecDepth 100000
def trl_ren : Go.Shelf.Ren := ⟨fun | 160 => 105 | 232 => 129 | 231 => 128 | 227 => 130 | 234 => 132 | 233 => 131 | 236 => 134 | 235 => 133 | 228 => 156 | 271 => 159 | 151 => 158 | 197 => 157 | 120 => 174 | 152 => 173 | 260 => 172 | 137 => 180 | 119 => 181 | 224 => 182 | 225 => 183 | 217 => 186 | 266 => 187 | n => n, fun | 9 => 9 | 4 => 4 | 3 => 3 | 5 => 5 | 117 => 176 | 116 => 175 | 0 => 0 | 124 => 179 | 21 => 21 | 105 => 198 | 46 => 52 | 119 => 217 | 139 => 220 | 138 => 219 | n => n, fun | 3 => 2 | 4 => 3 | n => n⟩
theorem trl : Go.Proofs.Lays.n160 Tryz.prog trl_ren := {
  mixed := by kernel_rfl
  f119 := Tryz.func181.trans (congrArg some (by kernel_rfl))
  f120 := Tryz.func174.trans (congrArg some (by kernel_rfl))
  f137 := Tryz.func180.trans (congrArg some (by kernel_rfl))
  f151 := Tryz.func158.trans (congrArg some (by kernel_rfl))
  f152 := Tryz.func173.trans (congrArg some (by kernel_rfl))
  f160 := Tryz.func105.trans (congrArg some (by kernel_rfl))
  f197 := Tryz.func157.trans (congrArg some (by kernel_rfl))
  f217 := Tryz.func186.trans (congrArg some (by kernel_rfl))
  f224 := Tryz.func182.trans (congrArg some (by kernel_rfl))
  f225 := Tryz.func183.trans (congrArg some (by kernel_rfl))
  f227 := Tryz.func130.trans (congrArg some (by kernel_rfl))
  f228 := Tryz.func156.trans (congrArg some (by kernel_rfl))
  f231 := Tryz.func128.trans (congrArg some (by kernel_rfl))
  f232 := Tryz.func129.trans (congrArg some (by kernel_rfl))
  f233 := Tryz.func131.trans (congrArg some (by kernel_rfl))
  f234 := Tryz.func132.trans (congrArg some (by kernel_rfl))
  f235 := Tryz.func133.trans (congrArg some (by kernel_rfl))
  f236 := Tryz.func134.trans (congrArg some (by kernel_rfl))
  f260 := Tryz.func172.trans (congrArg some (by kernel_rfl))
  f266 := Tryz.func187.trans (congrArg some (by kernel_rfl))
  f271 := Tryz.func159.trans (congrArg some (by kernel_rfl))
  t0 := Tryz.underlying0
  a0 := Tryz.isAgg0
  z0 := Tryz.sizeOf0
  v0 := Tryz.zeroValue0
  t3 := Tryz.underlying3
  a3 := Tryz.isAgg3
  z3 := Tryz.sizeOf3
  v3 := Tryz.zeroValue3
  t4 := Tryz.underlying4
  a4 := Tryz.isAgg4
  z4 := Tryz.sizeOf4
  v4 := Tryz.zeroValue4
  t5 := Tryz.underlying5
  a5 := Tryz.isAgg5
  z5 := Tryz.sizeOf5
  v5 := Tryz.zeroValue5
  t9 := Tryz.underlying9
  a9 := Tryz.isAgg9
  z9 := Tryz.sizeOf9
  v9 := Tryz.zeroValue9
  t21 := Tryz.underlying21
  a21 := Tryz.isAgg21
  z21 := Tryz.sizeOf21
  v21 := Tryz.zeroValue21
  t46 := Tryz.underlying52
  a46 := Tryz.isAgg52
  z46 := Tryz.sizeOf52
  v46 := Tryz.zeroValue52
  t105 := Tryz.underlying198
  a105 := Tryz.isAgg198
  z105 := Tryz.sizeOf198
  v105 := Tryz.zeroValue198
  t116 := Tryz.underlying175
  a116 := Tryz.isAgg175
  z116 := Tryz.sizeOf175
  t117 := Tryz.underlying176
  a117 := Tryz.isAgg176
  z117 := Tryz.sizeOf176
  v117 := Tryz.zeroValue176
  t119 := Tryz.underlying217
  a119 := Tryz.isAgg217
  z119 := Tryz.sizeOf217
  t124 := Tryz.underlying179
  a124 := Tryz.isAgg179
  z124 := Tryz.sizeOf179
  v124 := Tryz.zeroValue179
  t138 := Tryz.underlying219
  a138 := Tryz.isAgg219
  z138 := Tryz.sizeOf219
  v138 := Tryz.zeroValue219
  t139 := Tryz.underlying220
  a139 := Tryz.isAgg220
  z139 := Tryz.sizeOf220
  v139 := Tryz.zeroValue220
  g3 := by kernel_rfl
  g4 := by kernel_rfl }

theorem strim_c {E w : World} {R : List Hp} (hH : Has E w [R]) (s : Bs) (hs : s.length ≤ 1000000) : Calls Tryz.prog 105 #[S s, S [0]] w fun e w' => e = .returned (S (Lib.trimB s 0)) ∧ Has E w' [R] := by
  refine (Any.strings_Trim_one trl ⟨s.toArray⟩ 0 (by decide) w (by simp only [ByteArray.size, List.size_toArray]; omega)).mono fun e w' h => ?_
  obtain ⟨h1, h2⟩ := h
  refine ⟨by rw [h1]; rfl, ?_⟩
  rcases h2 with h2 | h2
  · rw [h2]; exact hH
  · rw [h2]; exact Has0.drew hH _
theorem dropZ {s : Bs} : s.dropWhile (· == 0) = [] ↔ ∀ b ∈ s, b = 0 := by
  induction s with
  | nil => simp
  | cons x t ih =>
    rw [List.dropWhile_cons]
    by_cases h : x = 0
    · rw [if_pos (by simpa using h), ih]; simp [h]
    · rw [if_neg (by simpa using h)]; simp [h]
theorem trim_zero {s : Bs} : Lib.trimB s 0 = [] ↔ s = List.replicate s.length 0 := by
  unfold Lib.trimB Lib.trimLeftB Lib.trimRightB
  rw [dropZ, List.eq_replicate_iff]
  constructor
  · intro h
    refine ⟨rfl, ?_⟩
    have h1 : ∀ b ∈ s.reverse.dropWhile (· == 0), b = 0 := fun b hb => h b (List.mem_reverse.2 hb)
    have h2 : s.reverse.dropWhile (· == 0) = [] := by
      cases e : s.reverse.dropWhile (· == 0) with
      | nil => rfl
      | cons x t =>
        have hx := h1 x (by rw [e]; exact List.mem_cons_self ..)
        have hn := List.head?_dropWhile_not (fun b : UInt8 => b == 0) s.reverse
        rw [e] at hn
        simp [hx] at hn
    intro b hb
    exact dropZ.1 h2 b (List.mem_reverse.2 hb)
  · rintro ⟨_, h⟩ b hb
    have := (List.dropWhile_sublist _).subset (List.mem_reverse.1 hb)
    exact h b (List.mem_reverse.1 this)
end Go.Q
namespace Go.Q
open Go.Proofs
set_option linter.unusedVariables false
set_option maxRecDepth 100000
attribute [local irreducible] wpList OK Code.wp
set_option maxHeartbeats 4000000 in
theorem tblank_c {E w : World} {R : List Hp} (hH : Has E w [R]) (s : Bs) (hs : s.length ≤ 1000000) :
    Calls Tryz.prog 65 #[(S s)] w fun e w' => e = .returned (.bool (decide (s = zer s.length))) ∧ Has E w' [R] := by
  refine c_enter (args := [(S s)]) Tryz.func65 rfl Tryz.ntmps65 (by simp) ?_
  refine wp_seq_k fun K1 hK1 => ?_
  refine c_region ?_
  refine s_op (o_assign (v := (.bool false)) rfl ?_)
  refine s_nil ?_
  refine t_norm (hK1 _ _ ?_)
  refine wp_seq_k fun K2 hK2 => ?_
  refine c_region ?_
  refine s_op (o_move (v := (S s)) rfl ?_)
  refine s_op (o_callf (vs := #[(S s), (S [0])]) ca105 rfl (args2 rfl rfl) (strim_c hH.all s (by omega)) ?_)
  rintro _ w5 ⟨rfl, hX3⟩
  refine ⟨_, rfl, ?_⟩
  have hH4 := hX3.of_all
  refine s_op (o_seql (a := (Lib.trimB s 0)) (b := ([] : List UInt8)) rfl rfl ?_)
  refine s_op (o_assign (v := (.bool (decide ((Lib.trimB s 0) = ([] : List UInt8))))) rfl ?_)
  refine s_nil ?_
  refine t_norm (hK2 _ _ ?_)
  refine wp_ret ?_
  refine c_ret1 Tryz.results65  (v := (.bool (decide ((Lib.trimB s 0) = ([] : List UInt8))))) rfl ?_
  exact ⟨by rw [show decide (s = zer s.length) = decide ((Lib.trimB s 0) = ([] : List UInt8)) from decide_eq_decide.2 trim_zero.symm], hH4⟩
set_option maxHeartbeats 4000000 in
theorem tnoted_on {E w : World} {R sg : List Hp} {pb db tb : Nat} {d : Dv} {n : Int} (hH : Has E w [sg, [Hp.one pb (.cells #[(.bool d.p.off), (.bool d.p.armed), (.int .i64 d.p.left), (.int .i64 d.p.uses)] 101 (0, 0))], [Hp.one tb (.cells #[(.pointer (some ⟨db, 0, none⟩)), (.int .i64 n)] 98 (0, 0))], R]) (hd : DevAt pb sg db d.la d.lo) (hlo : d.lo = []) (hon : d.p.off = false) (h64 : Full64 d.la) (hln : 1 ≤ d.la.length) :
    Calls Tryz.prog 102 #[(.pointer (some ⟨tb, 0, none⟩))] w fun e w' => e = .returned (.tuple #[.int .i64 (notedS (sec d.la 0) n).1, .int .i64 (notedS (sec d.la 0) n).2]) ∧ Has E w' [sg, [Hp.one pb (.cells #[(.bool d.p.off), (.bool d.p.armed), (.int .i64 d.p.left), (.int .i64 d.p.uses)] 101 (0, 0))], [Hp.one tb (.cells #[(.pointer (some ⟨db, 0, none⟩)), (.int .i64 n)] 98 (0, 0))], R] := by
  refine c_enter (args := [(.pointer (some ⟨tb, 0, none⟩))]) Tryz.func102 rfl Tryz.ntmps102 (by simp) ?_
  refine wp_seq_k fun K1 hK1 => ?_
  refine c_region ?_
  refine s_op (o_assign (v := (.int .i64 0)) rfl ?_)
  refine s_op (o_assign (v := (.int .i64 0)) rfl ?_)
  refine s_nil ?_
  refine t_norm (hK1 _ _ ?_)
  refine wp_seq_k fun K2 hK2 => ?_
  refine c_region ?_
  refine s_op (o_move (v := (.pointer (some ⟨tb, 0, none⟩))) rfl ?_)
  refine s_op (o_nilCheck rfl ?_)
  refine s_op (o_fieldAddr (k := 0) (fun _ => by kernel_rfl) rfl ?_)
  refine s_op (o_load1 (v := (.pointer (some ⟨db, 0, none⟩))) Tryz.underlying29 rfl rfl hH (seg_sub 2 rfl) (CellsAt.one rfl) ?_)
  refine s_op (o_callf (vs := #[(.pointer (some ⟨db, 0, none⟩)), (.int .i64 0)]) ca32 rfl (args2 rfl rfl) (read_d (p := d.p) (la := d.la) (lo := d.lo) ((hH.front 1 rfl).front 1 rfl).all2 hd 0) ?_)
  rintro _ w5 ⟨rfl, hX3⟩
  refine ⟨_, rfl, ?_⟩
  have hH4 : Has E w5 [sg, [Hp.one pb (.cells #[(.bool d.p.off), (.bool d.p.armed), (.int .i64 d.p.left), (.int .i64 d.p.uses)] 101 (0, 0))], [Hp.one tb (.cells #[(.pointer (some ⟨db, 0, none⟩)), (.int .i64 n)] 98 (0, 0))], R] := hX3.of_all2
  refine s_op (o_move (v := (.tuple #[(S (readS d.p d.la d.lo 0)), (.int .i64 (readE d.p d.la 0))])) rfl ?_)
  refine s_op (o_extract (v := (S (readS d.p d.la d.lo 0))) rfl rfl ?_)
  refine s_op (o_extract (v := (.int .i64 (readE d.p d.la 0))) rfl rfl ?_)
  refine s_op (o_assign (v := (S (readS d.p d.la d.lo 0))) rfl ?_)
  refine s_op (o_assign (v := (.int .i64 (readE d.p d.la 0))) rfl ?_)
  refine s_nil ?_
  refine t_norm (hK2 _ _ ?_)
  refine wp_seq_k fun K6 hK6 => ?_
  refine wp_block ?_
  refine wp_seq_k fun K7 hK7 => ?_
  refine c_region ?_
  refine s_op (o_move (v := (.int .i64 (readE d.p d.la 0))) rfl ?_)
  refine s_op (o_neq (a := readE d.p d.la 0) (b := 0) rfl rfl ?_)
  refine s_op (o_assign (v := (.bool (decide (readE d.p d.la 0 ≠ 0)))) rfl ?_)
  refine s_nil ?_
  refine t_norm (hK7 _ _ ?_)
  refine c_cond rfl (fun h8 => ?_) (fun h8 => ?_)
  · -- readE d.p d.la 0 ≠ 0
    obtain ⟨hs9_, he9_⟩ := rd_sec (d := d) (n := 0) hlo hon ⟨by omega, by omega⟩
    have hl9_ : (readS d.p d.la d.lo 0).length = 64 := by rw [hs9_]; exact sec_len h64 ⟨by omega, by omega⟩
    exact absurd he9_ h8
  · -- not: readE d.p d.la 0 ≠ 0
    obtain ⟨hs10_, he10_⟩ := rd_sec (d := d) (n := 0) hlo hon ⟨by omega, by omega⟩
    have hl10_ : (readS d.p d.la d.lo 0).length = 64 := by rw [hs10_]; exact sec_len h64 ⟨by omega, by omega⟩
    refine wp_seq_k fun K11 hK11 => ?_
    refine c_region ?_
    refine s_op (o_move (v := (S (readS d.p d.la d.lo 0))) rfl ?_)
    refine s_op (o_callf (vs := #[(S (readS d.p d.la d.lo 0))]) ca65 rfl (args1 rfl) (tblank_c hH4.all (readS d.p d.la d.lo 0) (by first | omega | (simp only [List.length_drop]; omega))) ?_)
    rintro _ w14 ⟨rfl, hX12⟩
    refine ⟨_, rfl, ?_⟩
    have hH13 := hX12.of_all
    refine s_op (o_assign (v := (.bool (decide ((readS d.p d.la d.lo 0) = zer (readS d.p d.la d.lo 0).length)))) rfl ?_)
    refine s_nil ?_
    refine t_norm (hK11 _ _ ?_)
    refine c_cond rfl (fun h15 => ?_) (fun h15 => ?_)
    · -- (readS d.p d.la d.lo 0) = zer (readS d.p d.la d.lo 0).length
      refine wp_seq_k fun K16 hK16 => ?_
      refine c_region ?_
      refine s_op (o_assign (v := (.int .i64 (-1))) rfl ?_)
      refine s_op (o_assign (v := (.int .i64 0)) rfl ?_)
      refine s_nil ?_
      refine t_norm (hK16 _ _ ?_)
      refine wp_ret ?_
      refine b_ret (t_ret (c_ret2 Tryz.results102  (v := (.int .i64 (-1))) rfl (x := (.int .i64 0)) rfl ?_))
      have hE_ : notedS (readS d.p d.la d.lo 0) n = (-1, 0) := nt_blank h15 hl10_
      rw [hs10_] at hE_
      exact ⟨by rw [hE_], hH13⟩
    · -- not: (readS d.p d.la d.lo 0) = zer (readS d.p d.la d.lo 0).length
      refine wp_seq_k fun K17 hK17 => ?_
      refine Rest.region mixed (by kernel_rfl) ?_
      have hH18 : Has E { w14 with drawn := w14.drawn + 1 } [sg, [Hp.one pb (.cells #[(.bool d.p.off), (.bool d.p.armed), (.int .i64 d.p.left), (.int .i64 d.p.uses)] 101 (0, 0))], [Hp.one tb (.cells #[(.pointer (some ⟨db, 0, none⟩)), (.int .i64 n)] 98 (0, 0))], R] := Has0.drew hH13 _
      refine Rest.phaseA (fun w_ => Has E w_ [[Hp.one tb (.cells #[(.pointer (some ⟨db, 0, none⟩)), (.int .i64 n)] 98 (0, 0))]]) 0 7 7 rfl (by decide) (by kernel_rfl) ?_
      refine a_op 0 rfl (by kernel_rfl) (fun w_ h_ => o_move (v := (S (readS d.p d.la d.lo 0))) rfl ⟨rfl, rfl⟩) ?_
      obtain ⟨c19, hx20⟩ : ∃ x_, (readS d.p d.la d.lo 0)[((0 : Int)).toNat]? = some x_ := get_some (by omega)
      have c19_lt := c19.toNat_lt
      refine a_op 1 rfl (by kernel_rfl) (fun w_ h_ => o_sidx Tryz.underlying9 rfl rfl (by omega) hx20 ⟨rfl, rfl⟩) ?_
      refine a_op 2 rfl (by kernel_rfl) (fun w_ h_ => o_conv Tryz.underlying5 Tryz.underlying3 rfl (w_u8 _) ⟨rfl, rfl⟩) ?_
      refine a_op 3 rfl (by kernel_rfl) (fun w_ h_ => o_move (v := (.pointer (some ⟨tb, 0, none⟩))) rfl ⟨rfl, rfl⟩) ?_
      refine a_op 4 rfl (by kernel_rfl) (fun w_ h_ => o_nilCheck rfl ⟨rfl, rfl⟩) ?_
      refine a_op 5 rfl (by kernel_rfl) (fun w_ h_ => o_fieldAddr (k := 1) (fun _ => by kernel_rfl) rfl ⟨rfl, rfl⟩) ?_
      refine a_op 6 rfl (by kernel_rfl) (fun w_ h_ => o_load1 (v := (.int .i64 n)) Tryz.underlying3 rfl rfl h_ (seg_sub 0 rfl) (CellsAt.one rfl) ⟨rfl, rfl⟩) ?_
      have hH21 : Has E { w14 with drawn := w14.drawn + 1 } [[Hp.one tb (.cells #[(.pointer (some ⟨db, 0, none⟩)), (.int .i64 n)] 98 (0, 0))]] := (hH18.front 2 rfl).first 1 rfl
      refine a_done (by kernel_rfl) hH21 ?_
      refine r_op 7 rfl (by kernel_rfl) (o_gtr (a := (c19.toNat : Int)) (b := n) rfl rfl ?_)
      refine r_op 8 rfl (by kernel_rfl) (o_move (v := (.bool (decide (n < (c19.toNat : Int))))) rfl ?_)
      by_cases h22 : n < (c19.toNat : Int)
      · -- n < (c19.toNat : Int)
        refine r_off (b' := true) 9 rfl (by kernel_rfl) 30 rfl (congrArg Value.bool (decide_eq_true h22)) rfl ?_
        refine r_off (b' := true) 10 rfl (by kernel_rfl) 30 rfl (congrArg Value.bool (decide_eq_true h22)) rfl ?_
        refine r_off (b' := true) 11 rfl (by kernel_rfl) 30 rfl (congrArg Value.bool (decide_eq_true h22)) rfl ?_
        refine r_op 12 rfl (by kernel_rfl) (o_pick_t (u := (.bool true)) ((rfl : _ = _).trans (congrArg Value.bool (decide_eq_true h22))) rfl ?_)
        refine r_op 13 rfl (by kernel_rfl) (o_move (v := (.bool true)) rfl ?_)
        refine r_off (b' := true) 14 rfl (by kernel_rfl) 35 rfl rfl rfl ?_
        refine r_off (b' := true) 15 rfl (by kernel_rfl) 35 rfl rfl rfl ?_
        refine r_off (b' := true) 16 rfl (by kernel_rfl) 35 rfl rfl rfl ?_
        refine r_off (b' := true) 17 rfl (by kernel_rfl) 35 rfl rfl rfl ?_
        refine r_op 18 rfl (by kernel_rfl) (o_pick_t (u := (.bool true)) rfl rfl ?_)
        refine r_op 19 rfl (by kernel_rfl) (o_assign (v := (.bool true)) rfl ?_)
        refine Rest.done (by kernel_rfl) ?_
        refine t_norm (hK17 _ _ ?_)
        refine c_true rfl rfl ?_
        refine wp_seq_k fun K23 hK23 => ?_
        refine c_region ?_
        refine s_op (o_assign (v := (.int .i64 0)) rfl ?_)
        refine s_op (o_assign (v := (.int .i64 9)) rfl ?_)
        refine s_nil ?_
        refine t_norm (hK23 _ _ ?_)
        refine wp_ret ?_
        refine b_ret (t_ret (c_ret2 Tryz.results102  (v := (.int .i64 0)) rfl (x := (.int .i64 9)) rfl ?_))
        have hE_ : notedS (readS d.p d.la d.lo 0) n = (0, 9) := nt_bad (show (readS d.p d.la d.lo 0)[0]? = some _ from hx20) hl10_ h15 (.inl h22)
        rw [hs10_] at hE_
        exact ⟨by rw [hE_], hH18⟩
      · -- not: n < (c19.toNat : Int)
        refine r_on 9 rfl (by kernel_rfl) 30 rfl (congrArg Value.bool (decide_eq_false h22)) (o_move (v := (S (readS d.p d.la d.lo 0))) rfl ?_)
        refine r_on 10 rfl (by kernel_rfl) 30 rfl (congrArg Value.bool (decide_eq_false h22)) (o_sidx Tryz.underlying9 rfl rfl (by omega) hx20 ?_)
        refine r_on 11 rfl (by kernel_rfl) 30 rfl (congrArg Value.bool (decide_eq_false h22)) (o_eql (a := (c19.toNat : Int)) (b := 0) rfl rfl ?_)
        refine r_op 12 rfl (by kernel_rfl) (o_pick_f (u := (.bool (decide ((c19.toNat : Int) = 0)))) ((rfl : _ = _).trans (congrArg Value.bool (decide_eq_false h22))) rfl ?_)
        refine r_op 13 rfl (by kernel_rfl) (o_move (v := (.bool (decide ((c19.toNat : Int) = 0)))) rfl ?_)
        by_cases h24 : (c19.toNat : Int) = 0
        · -- (c19.toNat : Int) = 0
          refine r_off (b' := true) 14 rfl (by kernel_rfl) 35 rfl (congrArg Value.bool (decide_eq_true h24)) rfl ?_
          refine r_off (b' := true) 15 rfl (by kernel_rfl) 35 rfl (congrArg Value.bool (decide_eq_true h24)) rfl ?_
          refine r_off (b' := true) 16 rfl (by kernel_rfl) 35 rfl (congrArg Value.bool (decide_eq_true h24)) rfl ?_
          refine r_off (b' := true) 17 rfl (by kernel_rfl) 35 rfl (congrArg Value.bool (decide_eq_true h24)) rfl ?_
          refine r_op 18 rfl (by kernel_rfl) (o_pick_t (u := (.bool true)) ((rfl : _ = _).trans (congrArg Value.bool (decide_eq_true h24))) rfl ?_)
          refine r_op 19 rfl (by kernel_rfl) (o_assign (v := (.bool true)) rfl ?_)
          refine Rest.done (by kernel_rfl) ?_
          refine t_norm (hK17 _ _ ?_)
          refine c_true rfl rfl ?_
          refine wp_seq_k fun K25 hK25 => ?_
          refine c_region ?_
          refine s_op (o_assign (v := (.int .i64 0)) rfl ?_)
          refine s_op (o_assign (v := (.int .i64 9)) rfl ?_)
          refine s_nil ?_
          refine t_norm (hK25 _ _ ?_)
          refine wp_ret ?_
          refine b_ret (t_ret (c_ret2 Tryz.results102  (v := (.int .i64 0)) rfl (x := (.int .i64 9)) rfl ?_))
          have hE_ : notedS (readS d.p d.la d.lo 0) n = (0, 9) := nt_bad (show (readS d.p d.la d.lo 0)[0]? = some _ from hx20) hl10_ h15 (.inr (.inl h24))
          rw [hs10_] at hE_
          exact ⟨by rw [hE_], hH18⟩
        · -- not: (c19.toNat : Int) = 0
          refine r_on 14 rfl (by kernel_rfl) 35 rfl (congrArg Value.bool (decide_eq_false h24)) (o_move (v := (S (readS d.p d.la d.lo 0))) rfl ?_)
          refine r_on 15 rfl (by kernel_rfl) 35 rfl (congrArg Value.bool (decide_eq_false h24)) (o_ssl_l Tryz.underlying9 rfl rfl (by omega) (by omega) ?_)
          refine r_on 16 rfl (by kernel_rfl) 35 rfl (congrArg Value.bool (decide_eq_false h24)) (o_callf (vs := #[(S ((readS d.p d.la d.lo 0).drop 1))]) ca65 rfl (args1 rfl) (tblank_c hH18.all ((readS d.p d.la d.lo 0).drop 1) (by first | omega | (simp only [List.length_drop]; omega))) ?_)
          rintro _ w28 ⟨rfl, hX26⟩
          refine ⟨_, rfl, ?_⟩
          have hH27 := hX26.of_all
          refine r_on 17 rfl (by kernel_rfl) 35 rfl (congrArg Value.bool (decide_eq_false h24)) (o_not2 (b := decide ((readS d.p d.la d.lo 0).drop 1 = zer ((readS d.p d.la d.lo 0).drop 1).length)) (b' := decide (¬ ((readS d.p d.la d.lo 0).drop 1 = zer ((readS d.p d.la d.lo 0).drop 1).length))) rfl not_dec ?_)
          refine r_op 18 rfl (by kernel_rfl) (o_pick_f (u := (.bool (decide (¬ ((readS d.p d.la d.lo 0).drop 1 = zer ((readS d.p d.la d.lo 0).drop 1).length))))) ((rfl : _ = _).trans (congrArg Value.bool (decide_eq_false h24))) rfl ?_)
          refine r_op 19 rfl (by kernel_rfl) (o_assign (v := (.bool (decide (¬ ((readS d.p d.la d.lo 0).drop 1 = zer ((readS d.p d.la d.lo 0).drop 1).length))))) rfl ?_)
          refine Rest.done (by kernel_rfl) ?_
          refine t_norm (hK17 _ _ ?_)
          refine c_cond rfl (fun h29 => ?_) (fun h29 => ?_)
          · -- ¬ ((readS d.p d.la d.lo 0).drop 1 = zer ((readS d.p d.la d.lo 0).drop 1).length)
            refine wp_seq_k fun K30 hK30 => ?_
            refine c_region ?_
            refine s_op (o_assign (v := (.int .i64 0)) rfl ?_)
            refine s_op (o_assign (v := (.int .i64 9)) rfl ?_)
            refine s_nil ?_
            refine t_norm (hK30 _ _ ?_)
            refine wp_ret ?_
            refine b_ret (t_ret (c_ret2 Tryz.results102  (v := (.int .i64 0)) rfl (x := (.int .i64 9)) rfl ?_))
            have hE_ : notedS (readS d.p d.la d.lo 0) n = (0, 9) := nt_bad (show (readS d.p d.la d.lo 0)[0]? = some _ from hx20) hl10_ h15 (.inr (.inr (by simpa using h29)))
            rw [hs10_] at hE_
            exact ⟨by rw [hE_], hH27⟩
          · -- not: ¬ ((readS d.p d.la d.lo 0).drop 1 = zer ((readS d.p d.la d.lo 0).drop 1).length)
            refine wp_skip ?_
            refine b_norm ?_
            refine t_norm (hK6 _ _ ?_)
            refine wp_seq_k fun K31 hK31 => ?_
            refine c_region ?_
            refine s_op (o_move (v := (S (readS d.p d.la d.lo 0))) rfl ?_)
            refine s_op (o_sidx Tryz.underlying9 rfl rfl (by omega) hx20 ?_)
            refine s_op (o_conv Tryz.underlying5 Tryz.underlying3 rfl (w_u8 _) ?_)
            refine s_op (o_sub (a := (c19.toNat : Int)) (b := 1) rfl rfl (w64 (by omega) (by omega)) ?_)
            refine s_op (o_assign (v := (.int .i64 ((c19.toNat : Int) - 1))) rfl ?_)
            refine s_op (o_assign (v := (.int .i64 0)) rfl ?_)
            refine s_nil ?_
            refine t_norm (hK31 _ _ ?_)
            refine wp_ret ?_
            refine c_ret2 Tryz.results102  (v := (.int .i64 ((c19.toNat : Int) - 1))) rfl (x := (.int .i64 0)) rfl ?_
            have hE_ : notedS (readS d.p d.la d.lo 0) n = ((c19.toNat : Int) - 1, 0) := nt_ok (show (readS d.p d.la d.lo 0)[0]? = some _ from hx20) hl10_ h15 h22 h24 (by simpa using h29)
            rw [hs10_] at hE_
            exact ⟨by rw [hE_], hH27⟩
end Go.Q
namespace Go.Q
open Go.Proofs
set_option linter.unusedVariables false
set_option maxRecDepth 100000
attribute [local irreducible] wpList OK Code.wp
set_option maxHeartbeats 4000000 in
theorem tmend_on {E w : World} {R sg : List Hp} {pb db tb : Nat} {d : Dv} {n : Int} (hH : Has E w [sg, [Hp.one pb (.cells #[(.bool d.p.off), (.bool d.p.armed), (.int .i64 d.p.left), (.int .i64 d.p.uses)] 101 (0, 0))], [Hp.one tb (.cells #[(.pointer (some ⟨db, 0, none⟩)), (.int .i64 n)] 98 (0, 0))], R]) (hd : DevAt pb sg db d.la d.lo) {k : Nat} (hf : Few d.p k) (hk : k ≤ 850000) (hlo : d.lo = []) (h4 : d.la.length ≤ 4096) (hon : d.p.off = false) (h64 : Full64 d.la) (hg : CellsAt R 1 0 nibV) (hn : 1 ≤ n ∧ n ≤ 64) (hln : 5 + n * 4 ≤ d.la.length) :
    Calls Tryz.prog 59 #[(.pointer (some ⟨tb, 0, none⟩))] w fun e w' => ∃ sg', e = .returned (.int .i64 (mendR d n).1) ∧ DevAt pb sg' db (mendR d n).2.la (mendR d n).2.lo ∧ Has E w' [sg', [Hp.one pb (.cells #[(.bool ((mendR d n).2).p.off), (.bool ((mendR d n).2).p.armed), (.int .i64 ((mendR d n).2).p.left), (.int .i64 ((mendR d n).2).p.uses)] 101 (0, 0))], [Hp.one tb (.cells #[(.pointer (some ⟨db, 0, none⟩)), (.int .i64 n)] 98 (0, 0))], R] := by
  have hBl_ := pgB_len h64 (x := 1) (by decide) (by omega)
  have hnl_ := nt_lt (s := sec d.la 0) hn.1
  refine c_enter (args := [(.pointer (some ⟨tb, 0, none⟩))]) Tryz.func59 rfl Tryz.ntmps59 (by simp) ?_
  refine wp_seq_k fun K1 hK1 => ?_
  refine c_region ?_
  refine s_op (o_assign (v := (.int .i64 0)) rfl ?_)
  refine s_nil ?_
  refine t_norm (hK1 _ _ ?_)
  refine wp_seq_k fun K2 hK2 => ?_
  refine c_region ?_
  refine s_op (o_move (v := (.pointer (some ⟨tb, 0, none⟩))) rfl ?_)
  refine s_op (o_callf (vs := #[(.pointer (some ⟨tb, 0, none⟩))]) ca102 rfl (args1 rfl) (tnoted_on (d := d) (n := n) (((hH.front 2 rfl).front 2 rfl).front 2 rfl).all3 hd hlo hon h64 (by omega)) ?_)
  rintro _ w5 ⟨rfl, hX3⟩
  refine ⟨_, rfl, ?_⟩
  have hH4 : Has E w5 [sg, [Hp.one pb (.cells #[(.bool d.p.off), (.bool d.p.armed), (.int .i64 d.p.left), (.int .i64 d.p.uses)] 101 (0, 0))], [Hp.one tb (.cells #[(.pointer (some ⟨db, 0, none⟩)), (.int .i64 n)] 98 (0, 0))], R] := hX3.of_all3
  refine s_op (o_move (v := (.tuple #[(.int .i64 ((notedS (sec d.la 0) n).1)), (.int .i64 ((notedS (sec d.la 0) n).2))])) rfl ?_)
  refine s_op (o_extract (v := (.int .i64 ((notedS (sec d.la 0) n).1))) rfl rfl ?_)
  refine s_op (o_extract (v := (.int .i64 ((notedS (sec d.la 0) n).2))) rfl rfl ?_)
  refine s_op (o_assign (v := (.int .i64 ((notedS (sec d.la 0) n).1))) rfl ?_)
  refine s_op (o_assign (v := (.int .i64 ((notedS (sec d.la 0) n).2))) rfl ?_)
  refine s_nil ?_
  refine t_norm (hK2 _ _ ?_)
  refine wp_seq_k fun K6 hK6 => ?_
  refine wp_seq_k fun K7 hK7 => ?_
  refine c_region ?_
  refine s_op (o_move (v := (.int .i64 ((notedS (sec d.la 0) n).2))) rfl ?_)
  refine s_op (o_neq (a := (notedS (sec d.la 0) n).2) (b := 0) rfl rfl ?_)
  refine s_op (o_move (v := (.bool (decide ((notedS (sec d.la 0) n).2 ≠ 0)))) rfl ?_)
  by_cases h8 : (notedS (sec d.la 0) n).2 ≠ 0
  · -- (notedS (sec d.la 0) n).2 ≠ 0
    refine s_off (b' := true) 16 rfl (congrArg Value.bool (decide_eq_true h8)) rfl ?_
    refine s_off (b' := true) 16 rfl (congrArg Value.bool (decide_eq_true h8)) rfl ?_
    refine s_op (o_pick_t (u := (.bool true)) ((rfl : _ = _).trans (congrArg Value.bool (decide_eq_true h8))) rfl ?_)
    refine s_nil ?_
    refine t_norm (hK7 _ _ ?_)
    refine c_true rfl rfl ?_
    refine wp_seq_k fun K9 hK9 => ?_
    refine c_region ?_
    refine s_op (o_move (v := (.int .i64 ((notedS (sec d.la 0) n).2))) rfl ?_)
    refine s_op (o_assign (v := (.int .i64 ((notedS (sec d.la 0) n).2))) rfl ?_)
    refine s_nil ?_
    refine t_norm (hK9 _ _ ?_)
    refine wp_ret ?_
    refine t_ret (c_ret1 Tryz.results59  (v := (.int .i64 ((notedS (sec d.la 0) n).2))) rfl ?_)
    have hE_ : (mendR d n) = ((notedS (sec d.la 0) n).2, d) := mend_e hon h8
    exact ⟨_, by rw [hE_], by rw [hE_]; exact hd, by rw [hE_]; exact hH4⟩
  · -- not: (notedS (sec d.la 0) n).2 ≠ 0
    refine s_on 16 rfl (congrArg Value.bool (decide_eq_false h8)) (o_move (v := (.int .i64 ((notedS (sec d.la 0) n).1))) rfl ?_)
    refine s_on 16 rfl (congrArg Value.bool (decide_eq_false h8)) (o_lss (a := (notedS (sec d.la 0) n).1) (b := 0) rfl rfl ?_)
    refine s_op (o_pick_f (u := (.bool (decide ((notedS (sec d.la 0) n).1 < 0)))) ((rfl : _ = _).trans (congrArg Value.bool (decide_eq_false h8))) rfl ?_)
    refine s_nil ?_
    refine t_norm (hK7 _ _ ?_)
    refine c_cond rfl (fun h10 => ?_) (fun h10 => ?_)
    · -- (notedS (sec d.la 0) n).1 < 0
      refine wp_seq_k fun K11 hK11 => ?_
      refine c_region ?_
      refine s_op (o_move (v := (.int .i64 ((notedS (sec d.la 0) n).2))) rfl ?_)
      refine s_op (o_assign (v := (.int .i64 ((notedS (sec d.la 0) n).2))) rfl ?_)
      refine s_nil ?_
      refine t_norm (hK11 _ _ ?_)
      refine wp_ret ?_
      refine t_ret (c_ret1 Tryz.results59  (v := (.int .i64 ((notedS (sec d.la 0) n).2))) rfl ?_)
      have hE_ : (mendR d n) = ((notedS (sec d.la 0) n).2, d) := mend_none hon (Classical.not_not.1 h8) h10
      exact ⟨_, by rw [hE_], by rw [hE_]; exact hd, by rw [hE_]; exact hH4⟩
    · -- not: (notedS (sec d.la 0) n).1 < 0
      refine wp_skip ?_
      refine t_norm (hK6 _ _ ?_)
      refine wp_seq_k fun K12 hK12 => ?_
      refine c_region ?_
      refine s_op (o_move (v := (.pointer (some ⟨tb, 0, none⟩))) rfl ?_)
      refine s_op (o_callf (vs := #[(.pointer (some ⟨tb, 0, none⟩)), (.int .i64 1)]) ca63 rfl (args2 rfl rfl) (tget_on (d := d) (n := n) (((hH4.front 2 rfl).front 2 rfl).front 2 rfl).all3 hd hlo hon h64 (x := 1) ⟨by omega, by omega⟩ h4) ?_)
      rintro _ w15 ⟨rfl, hX13⟩
      refine ⟨_, rfl, ?_⟩
      have hH14 : Has E w15 [sg, [Hp.one pb (.cells #[(.bool d.p.off), (.bool d.p.armed), (.int .i64 d.p.left), (.int .i64 d.p.uses)] 101 (0, 0))], [Hp.one tb (.cells #[(.pointer (some ⟨db, 0, none⟩)), (.int .i64 n)] 98 (0, 0))], R] := hX13.of_all3
      refine s_op (o_move (v := (.tuple #[(S (pgB d.la 1)), (.int .i64 (0 : Int))])) rfl ?_)
      refine s_op (o_extract (v := (S (pgB d.la 1))) rfl rfl ?_)
      refine s_op (o_extract (v := (.int .i64 (0 : Int))) rfl rfl ?_)
      refine s_op (o_assign (v := (S (pgB d.la 1))) rfl ?_)
      refine s_op (o_assign (v := (.int .i64 (0 : Int))) rfl ?_)
      refine s_nil ?_
      refine t_norm (hK12 _ _ ?_)
      refine wp_seq_k fun K16 hK16 => ?_
      refine wp_seq_k fun K17 hK17 => ?_
      refine c_region ?_
      refine s_op (o_move (v := (.int .i64 (0 : Int))) rfl ?_)
      refine s_op (o_neq (a := (0 : Int)) (b := 0) rfl rfl ?_)
      refine s_nil ?_
      refine t_norm (hK17 _ _ ?_)
      refine c_cond rfl (fun h18 => ?_) (fun h18 => ?_)
      · -- (0 : Int) ≠ 0
        exact absurd rfl h18
      · -- not: (0 : Int) ≠ 0
        refine wp_skip ?_
        refine t_norm (hK16 _ _ ?_)
        refine wp_seq_k fun K19 hK19 => ?_
        refine wp_seq_k fun K20 hK20 => ?_
        refine c_region ?_
        refine s_op (o_move (v := (S (pgB d.la 1))) rfl ?_)
        refine s_op (o_callf (vs := #[(S (pgB d.la 1))]) ca66 rfl (args1 rfl) (pread_c (s := (pgB d.la 1)) hH14.all (hg.mono (seg_sub 3 rfl))) ?_)
        rintro _ w26 ⟨v21, s22, rfl, ho23, hX24⟩
        refine ⟨_, rfl, ?_⟩
        have hH25 : Has E w26 [s22, sg, [Hp.one pb (.cells #[(.bool d.p.off), (.bool d.p.armed), (.int .i64 d.p.left), (.int .i64 d.p.uses)] 101 (0, 0))], [Hp.one tb (.cells #[(.pointer (some ⟨db, 0, none⟩)), (.int .i64 n)] 98 (0, 0))], R] := hX24.of_all1
        refine s_op (o_move (v := (.tuple #[(.agg #[(.int .i64 ((readP (pgB d.la 1)).2.1)), (.int .i64 ((readP (pgB d.la 1)).2.2.1)), v21]), (.bool ((readP (pgB d.la 1)).1))])) rfl ?_)
        refine s_op (o_extract (v := (.agg #[(.int .i64 ((readP (pgB d.la 1)).2.1)), (.int .i64 ((readP (pgB d.la 1)).2.2.1)), v21])) rfl rfl ?_)
        refine s_op (o_extract (v := (.bool ((readP (pgB d.la 1)).1))) rfl rfl ?_)
        refine s_op (o_alloc (cs := #[(.int .i64 0), (.int .i64 0), (.slice none 0 0)]) ti36 rfl hH25 fun b27 w28 hH29 => ?_)
        refine s_eff (o_storeN (vs := [(.int .i64 ((readP (pgB d.la 1)).2.1)), (.int .i64 ((readP (pgB d.la 1)).2.2.1)), v21]) (c' := #[(.int .i64 ((readP (pgB d.la 1)).2.1)), (.int .i64 ((readP (pgB d.la 1)).2.2.1)), v21]) ti36 rfl rfl rfl rfl (by intro u hu; simp only [List.mem_cons, List.not_mem_nil, or_false] at hu; rcases hu with rfl | rfl | rfl <;> first | rfl | exact ho23.one) (by simp) (by kernel_rfl) (hH29.front 0 rfl) fun w30 hH31 => ?_)
        refine s_op (o_assign (v := (.bool ((readP (pgB d.la 1)).1))) rfl ?_)
        refine s_nil ?_
        refine t_norm (hK20 _ _ ?_)
        refine wp_seq_k fun K32 hK32 => ?_
        refine c_region ?_
        refine s_op (o_move (v := (.bool ((readP (pgB d.la 1)).1))) rfl ?_)
        refine s_op (o_not rfl ?_)
        refine s_op (o_move (v := (.bool (!((readP (pgB d.la 1)).1)))) rfl ?_)
        rcases Bool.eq_false_or_eq_true (!((readP (pgB d.la 1)).1)) with h33 | h33
        · -- !((readP (pgB d.la 1)).1)
          have h33_n : ((readP (pgB d.la 1)).1) = false := by simpa using h33
          refine s_off (b' := true) 36 rfl (congrArg Value.bool h33) rfl ?_
          refine s_off (b' := true) 36 rfl (congrArg Value.bool h33) rfl ?_
          refine s_off (b' := true) 36 rfl (congrArg Value.bool h33) rfl ?_
          refine s_off (b' := true) 36 rfl (congrArg Value.bool h33) rfl ?_
          refine s_op (o_pick_t (u := (.bool true)) ((rfl : _ = _).trans (congrArg Value.bool h33)) rfl ?_)
          refine s_nil ?_
          refine t_norm (hK32 _ _ ?_)
          refine c_true rfl rfl ?_
          refine wp_seq_k fun K34 hK34 => ?_
          refine c_region ?_
          refine s_op (o_assign (v := (.int .i64 9)) rfl ?_)
          refine s_nil ?_
          refine t_norm (hK34 _ _ ?_)
          refine wp_ret ?_
          refine t_ret (c_ret1 Tryz.results59  (v := (.int .i64 9)) rfl ?_)
          have hH35 : Has E w30 [sg, [Hp.one pb (.cells #[(.bool d.p.off), (.bool d.p.armed), (.int .i64 d.p.left), (.int .i64 d.p.uses)] 101 (0, 0))], [Hp.one tb (.cells #[(.pointer (some ⟨db, 0, none⟩)), (.int .i64 n)] 98 (0, 0))], R] := ((((hH31.front 5 rfl).front 5 rfl).front 5 rfl).front 5 rfl).first 4 rfl
          have hE_ : (mendR d n) = (9, d) := mend_bad hon (Classical.not_not.1 h8) h10 (fun k => by first | exact absurd k.1 (by simpa using h33) | exact absurd k.1 (by decide) k.2)
          exact ⟨_, by rw [hE_], by rw [hE_]; exact hd, by rw [hE_]; exact hH35⟩
        · -- not: !((readP (pgB d.la 1)).1)
          have h33_n : ((readP (pgB d.la 1)).1) = true := by simpa using h33
          refine s_on 36 rfl (congrArg Value.bool h33) (o_fieldAddr (k := 0) (fun _ => by kernel_rfl) rfl ?_)
          refine s_on 36 rfl (congrArg Value.bool h33) (o_load1 (v := (.int .i64 ((readP (pgB d.la 1)).2.1))) Tryz.underlying3 rfl rfl hH31 (seg_sub 0 rfl) (CellsAt.one rfl) ?_)
          refine s_on 36 rfl (congrArg Value.bool h33) (o_move (v := (.int .i64 ((notedS (sec d.la 0) n).1))) rfl ?_)
          refine s_on 36 rfl (congrArg Value.bool h33) (o_neq (a := (readP (pgB d.la 1)).2.1) (b := (notedS (sec d.la 0) n).1) rfl rfl ?_)
          refine s_op (o_pick_f (u := (.bool (decide ((readP (pgB d.la 1)).2.1 ≠ (notedS (sec d.la 0) n).1)))) ((rfl : _ = _).trans (congrArg Value.bool h33)) rfl ?_)
          refine s_nil ?_
          refine t_norm (hK32 _ _ ?_)
          refine c_cond rfl (fun h36 => ?_) (fun h36 => ?_)
          · -- (readP (pgB d.la 1)).2.1 ≠ (notedS (sec d.la 0) n).1
            refine wp_seq_k fun K37 hK37 => ?_
            refine c_region ?_
            refine s_op (o_assign (v := (.int .i64 9)) rfl ?_)
            refine s_nil ?_
            refine t_norm (hK37 _ _ ?_)
            refine wp_ret ?_
            refine t_ret (c_ret1 Tryz.results59  (v := (.int .i64 9)) rfl ?_)
            have hH38 : Has E w30 [sg, [Hp.one pb (.cells #[(.bool d.p.off), (.bool d.p.armed), (.int .i64 d.p.left), (.int .i64 d.p.uses)] 101 (0, 0))], [Hp.one tb (.cells #[(.pointer (some ⟨db, 0, none⟩)), (.int .i64 n)] 98 (0, 0))], R] := ((((hH31.front 5 rfl).front 5 rfl).front 5 rfl).front 5 rfl).first 4 rfl
            have hE_ : (mendR d n) = (9, d) := mend_bad hon (Classical.not_not.1 h8) h10 (fun k => by first | exact absurd k.1 (by simpa using h33) | exact h36 k.2)
            exact ⟨_, by rw [hE_], by rw [hE_]; exact hd, by rw [hE_]; exact hH38⟩
          · -- not: (readP (pgB d.la 1)).2.1 ≠ (notedS (sec d.la 0) n).1
            refine wp_skip ?_
            refine t_norm (hK19 _ _ ?_)
            refine wp_seq_k fun K39 hK39 => ?_
            refine wp_seq_k fun K40 hK40 => ?_
            refine c_region ?_
            refine s_op (o_move (v := (.pointer (some ⟨tb, 0, none⟩))) rfl ?_)
            refine s_op (o_move (v := (.int .i64 ((notedS (sec d.la 0) n).1))) rfl ?_)
            refine s_op (o_callf (vs := #[(.int .i64 ((notedS (sec d.la 0) n).1))]) ca64 rfl (args1 rfl) (place_c hH31.all (x := (notedS (sec d.la 0) n).1) ⟨by omega, by omega⟩) ?_)
            rintro _ w43 ⟨rfl, hX41⟩
            refine ⟨_, rfl, ?_⟩
            have hH42 := hX41.of_all
            refine s_op (o_move (v := (S (pgB d.la 1))) rfl ?_)
            refine s_op (o_callf (vs := #[(.pointer (some ⟨tb, 0, none⟩)), (.int .i64 (plc ((notedS (sec d.la 0) n).1))), (S (pgB d.la 1))]) ca97 rfl (args3 rfl rfl rfl) (tset_c (d := d) (n := n) (((hH42.front 4 rfl).front 4 rfl).front 4 rfl).all3 hd hf (by omega) (by rw [hlo]; exact LoOk.nil _) h4 (x := plc ((notedS (sec d.la 0) n).1)) (by unfold plc; exact ⟨by omega, by omega⟩) (s := (pgB d.la 1)) hBl_) ?_)
            rintro _ w48 ⟨sg44, rfl, hd45, hX46⟩
            refine ⟨_, rfl, ?_⟩
            have hH47 : Has E w48 [sg44, [Hp.one pb (.cells #[(.bool ((wrsy d (setT (plc ((notedS (sec d.la 0) n).1)) (pgB d.la 1))).2).p.off), (.bool ((wrsy d (setT (plc ((notedS (sec d.la 0) n).1)) (pgB d.la 1))).2).p.armed), (.int .i64 ((wrsy d (setT (plc ((notedS (sec d.la 0) n).1)) (pgB d.la 1))).2).p.left), (.int .i64 ((wrsy d (setT (plc ((notedS (sec d.la 0) n).1)) (pgB d.la 1))).2).p.uses)] 101 (0, 0))], [Hp.one tb (.cells #[(.pointer (some ⟨db, 0, none⟩)), (.int .i64 n)] 98 (0, 0))], [Hp.one b27 (.cells #[(.int .i64 ((readP (pgB d.la 1)).2.1)), (.int .i64 ((readP (pgB d.la 1)).2.2.1)), v21] 36 (0, 0))], s22, R] := hX46.of_all3
            refine s_op (o_assign (v := (.int .i64 ((wrsy d (setT (plc ((notedS (sec d.la 0) n).1)) (pgB d.la 1))).1))) rfl ?_)
            refine s_nil ?_
            refine t_norm (hK40 _ _ ?_)
            refine wp_seq_k fun K49 hK49 => ?_
            refine c_region ?_
            refine s_op (o_move (v := (.int .i64 ((wrsy d (setT (plc ((notedS (sec d.la 0) n).1)) (pgB d.la 1))).1))) rfl ?_)
            refine s_op (o_neq (a := (wrsy d (setT (plc ((notedS (sec d.la 0) n).1)) (pgB d.la 1))).1) (b := 0) rfl rfl ?_)
            refine s_nil ?_
            refine t_norm (hK49 _ _ ?_)
            refine c_cond rfl (fun h50 => ?_) (fun h50 => ?_)
            · -- (wrsy d (setT (plc ((notedS (sec d.la 0) n).1)) (pgB d.la 1))).1 ≠ 0
              refine wp_seq_k fun K51 hK51 => ?_
              refine c_region ?_
              refine s_op (o_move (v := (.int .i64 ((wrsy d (setT (plc ((notedS (sec d.la 0) n).1)) (pgB d.la 1))).1))) rfl ?_)
              refine s_op (o_assign (v := (.int .i64 ((wrsy d (setT (plc ((notedS (sec d.la 0) n).1)) (pgB d.la 1))).1))) rfl ?_)
              refine s_nil ?_
              refine t_norm (hK51 _ _ ?_)
              refine wp_ret ?_
              refine t_ret (c_ret1 Tryz.results59  (v := (.int .i64 ((wrsy d (setT (plc ((notedS (sec d.la 0) n).1)) (pgB d.la 1))).1))) rfl ?_)
              have hH52 : Has E w48 [sg44, [Hp.one pb (.cells #[(.bool ((wrsy d (setT (plc ((notedS (sec d.la 0) n).1)) (pgB d.la 1))).2).p.off), (.bool ((wrsy d (setT (plc ((notedS (sec d.la 0) n).1)) (pgB d.la 1))).2).p.armed), (.int .i64 ((wrsy d (setT (plc ((notedS (sec d.la 0) n).1)) (pgB d.la 1))).2).p.left), (.int .i64 ((wrsy d (setT (plc ((notedS (sec d.la 0) n).1)) (pgB d.la 1))).2).p.uses)] 101 (0, 0))], [Hp.one tb (.cells #[(.pointer (some ⟨db, 0, none⟩)), (.int .i64 n)] 98 (0, 0))], R] := ((((hH47.front 5 rfl).front 3 rfl).front 3 rfl).front 3 rfl).first 4 rfl
              have hE_ : (mendR d n) = ((wrsy d (setT (plc ((notedS (sec d.la 0) n).1)) (pgB d.la 1))).1, (wrsy d (setT (plc ((notedS (sec d.la 0) n).1)) (pgB d.la 1))).2) := by rw [mend_go hon (Classical.not_not.1 h8) h10 ⟨by simpa using h33, (Classical.not_not.1 h36)⟩]; show runs d [setT (plc (notedS (sec d.la 0) n).1) (pgB d.la 1), mrkG []] = _; rw [runs_stop h50]
              exact ⟨_, by rw [hE_], by rw [hE_]; exact hd45, by rw [hE_]; exact hH52⟩
            · -- not: (wrsy d (setT (plc ((notedS (sec d.la 0) n).1)) (pgB d.la 1))).1 ≠ 0
              refine wp_skip ?_
              refine t_norm (hK39 _ _ ?_)
              refine wp_seq_k fun K53 hK53 => ?_
              refine c_region ?_
              refine s_op (o_move (v := (.pointer (some ⟨tb, 0, none⟩))) rfl ?_)
              refine s_op (o_callf (vs := #[(.pointer (some ⟨tb, 0, none⟩)), (.slice none 0 0)]) ca98 rfl (args2 rfl rfl) (tmark_c (d := (wrsy d (setT (plc ((notedS (sec d.la 0) n).1)) (pgB d.la 1))).2) (n := n) (((hH47.front 2 rfl).front 2 rfl).front 2 rfl).all3 hd45 ((few_wrsy hf).mono (show _ ≤ k + 5 from Nat.le_refl _)) (by omega) (by rw [wrsy_zero (Classical.not_not.1 h50)]; exact LoOk.nil _) (by simp only [wrsy_len]; exact h4) (l := ([] : List Int)) (sl_nil 1) (by simp) (by rw [put_nil]; decide)) ?_)
              rintro _ w58 ⟨sg54, rfl, hd55, hX56⟩
              refine ⟨_, rfl, ?_⟩
              have hH57 : Has E w58 [sg54, [Hp.one pb (.cells #[(.bool ((wrsy ((wrsy d (setT (plc ((notedS (sec d.la 0) n).1)) (pgB d.la 1))).2) (mrkG [])).2).p.off), (.bool ((wrsy ((wrsy d (setT (plc ((notedS (sec d.la 0) n).1)) (pgB d.la 1))).2) (mrkG [])).2).p.armed), (.int .i64 ((wrsy ((wrsy d (setT (plc ((notedS (sec d.la 0) n).1)) (pgB d.la 1))).2) (mrkG [])).2).p.left), (.int .i64 ((wrsy ((wrsy d (setT (plc ((notedS (sec d.la 0) n).1)) (pgB d.la 1))).2) (mrkG [])).2).p.uses)] 101 (0, 0))], [Hp.one tb (.cells #[(.pointer (some ⟨db, 0, none⟩)), (.int .i64 n)] 98 (0, 0))], [Hp.one b27 (.cells #[(.int .i64 ((readP (pgB d.la 1)).2.1)), (.int .i64 ((readP (pgB d.la 1)).2.2.1)), v21] 36 (0, 0))], s22, R] := hX56.of_all3
              refine s_op (o_assign (v := (.int .i64 ((wrsy ((wrsy d (setT (plc ((notedS (sec d.la 0) n).1)) (pgB d.la 1))).2) (mrkG [])).1))) rfl ?_)
              refine s_nil ?_
              refine t_norm (hK53 _ _ ?_)
              refine wp_ret ?_
              refine c_ret1 Tryz.results59  (v := (.int .i64 ((wrsy ((wrsy d (setT (plc ((notedS (sec d.la 0) n).1)) (pgB d.la 1))).2) (mrkG [])).1))) rfl ?_
              have hH59 : Has E w58 [sg54, [Hp.one pb (.cells #[(.bool ((wrsy ((wrsy d (setT (plc ((notedS (sec d.la 0) n).1)) (pgB d.la 1))).2) (mrkG [])).2).p.off), (.bool ((wrsy ((wrsy d (setT (plc ((notedS (sec d.la 0) n).1)) (pgB d.la 1))).2) (mrkG [])).2).p.armed), (.int .i64 ((wrsy ((wrsy d (setT (plc ((notedS (sec d.la 0) n).1)) (pgB d.la 1))).2) (mrkG [])).2).p.left), (.int .i64 ((wrsy ((wrsy d (setT (plc ((notedS (sec d.la 0) n).1)) (pgB d.la 1))).2) (mrkG [])).2).p.uses)] 101 (0, 0))], [Hp.one tb (.cells #[(.pointer (some ⟨db, 0, none⟩)), (.int .i64 n)] 98 (0, 0))], R] := ((((hH57.front 5 rfl).front 3 rfl).front 3 rfl).front 3 rfl).first 4 rfl
              have hE_ : (mendR d n) = ((wrsy ((wrsy d (setT (plc ((notedS (sec d.la 0) n).1)) (pgB d.la 1))).2) (mrkG [])).1, (wrsy ((wrsy d (setT (plc ((notedS (sec d.la 0) n).1)) (pgB d.la 1))).2) (mrkG [])).2) := by rw [mend_go hon (Classical.not_not.1 h8) h10 ⟨by simpa using h33, (Classical.not_not.1 h36)⟩]; show runs d [setT (plc (notedS (sec d.la 0) n).1) (pgB d.la 1), mrkG []] = _; rw [runs_go (Classical.not_not.1 h50), runs_last]
              exact ⟨_, by rw [hE_], by rw [hE_]; exact hd55, by rw [hE_]; exact hH59⟩
end Go.Q
namespace Go.Q
open Go.Proofs
set_option linter.unusedVariables false
set_option maxRecDepth 100000
attribute [local irreducible] wpList OK Code.wp
set_option maxHeartbeats 4000000 in
theorem topen_ok {E w : World} {R sg : List Hp} {pb db : Nat} {d : Dv} (hH : Has E w [sg, [Hp.one pb (.cells #[(.bool d.p.off), (.bool d.p.armed), (.int .i64 d.p.left), (.int .i64 d.p.uses)] 101 (0, 0))], R]) (hd : DevAt pb sg db d.la d.lo) {n : Int} {k : Nat} (hf : Few d.p k) (hk : k ≤ 850000) (hlo : d.lo = []) (h4 : d.la.length ≤ 4096) (hn : 1 ≤ n ∧ n ≤ 64) (hln : 5 + n * 4 ≤ d.la.length) (hg : CellsAt R 1 0 nibV) (h64 : Full64 d.la) (hon : d.p.off = false) (hm : (mendR d n).1 = 0) :
    Calls Tryz.prog 21 #[(.pointer (some ⟨db, 0, none⟩)), (.int .i64 n)] w fun e w' => ∃ tb sg', e = .returned (.tuple #[.pointer (some ⟨tb, 0, none⟩), .int .i64 0]) ∧ DevAt pb sg' db (mendR d n).2.la (mendR d n).2.lo ∧ Has E w' [[Hp.one tb (.cells #[(.pointer (some ⟨db, 0, none⟩)), (.int .i64 n)] 98 (0, 0))], sg', [Hp.one pb (.cells #[(.bool ((mendR d n).2).p.off), (.bool ((mendR d n).2).p.armed), (.int .i64 ((mendR d n).2).p.left), (.int .i64 ((mendR d n).2).p.uses)] 101 (0, 0))], R] := by
  refine c_enter (args := [(.pointer (some ⟨db, 0, none⟩)), (.int .i64 n)]) Tryz.func21 rfl Tryz.ntmps21 (by simp) ?_
  refine wp_seq_k fun K1 hK1 => ?_
  refine c_region ?_
  refine s_op (o_assign (v := (.pointer none)) rfl ?_)
  refine s_op (o_assign (v := (.int .i64 0)) rfl ?_)
  refine s_nil ?_
  refine t_norm (hK1 _ _ ?_)
  refine wp_seq_k fun K2 hK2 => ?_
  refine wp_seq_k fun K3 hK3 => ?_
  refine c_region ?_
  refine s_op (o_move (v := (.pointer (some ⟨db, 0, none⟩))) rfl ?_)
  refine s_op (o_move (v := (.int .i64 n)) rfl ?_)
  refine s_op (o_callf (vs := #[(.pointer (some ⟨db, 0, none⟩)), (.int .i64 n)]) ca50 rfl (args2 rfl rfl) (begin_ok (d := d) ((hH.front 1 rfl).front 1 rfl).all2 hd (n := n) h4 hn hln hon) ?_)
  rintro _ w6 ⟨rfl, hX4⟩
  refine ⟨_, rfl, ?_⟩
  have hH5 : Has E w6 [sg, [Hp.one pb (.cells #[(.bool d.p.off), (.bool d.p.armed), (.int .i64 d.p.left), (.int .i64 d.p.uses)] 101 (0, 0))], R] := hX4.of_all2
  refine s_op (o_assign (v := (.int .i64 (0 : Int))) rfl ?_)
  refine s_nil ?_
  refine t_norm (hK3 _ _ ?_)
  refine wp_seq_k fun K7 hK7 => ?_
  refine c_region ?_
  refine s_op (o_move (v := (.int .i64 (0 : Int))) rfl ?_)
  refine s_op (o_neq (a := (0 : Int)) (b := 0) rfl rfl ?_)
  refine s_nil ?_
  refine t_norm (hK7 _ _ ?_)
  refine c_cond rfl (fun h8 => ?_) (fun h8 => ?_)
  · -- (0 : Int) ≠ 0
    exact absurd rfl h8
  · -- not: (0 : Int) ≠ 0
    refine wp_skip ?_
    refine t_norm (hK2 _ _ ?_)
    refine wp_seq_k fun K9 hK9 => ?_
    refine c_region ?_
    refine s_op (o_move (v := (.pointer (some ⟨db, 0, none⟩))) rfl ?_)
    refine s_op (o_move (v := (.int .i64 n)) rfl ?_)
    refine s_op (o_sight (v := (.agg #[(.pointer (some ⟨db, 0, none⟩)), (.int .i64 n)])) (fun _ => by kernel_rfl) ?_)
    refine s_op (o_box (cs := #[(.pointer (some ⟨db, 0, none⟩)), (.int .i64 n)]) rfl rfl hH5 fun b10 w11 hH12 => ?_)
    refine s_op (o_assign (v := (.pointer (some ⟨b10, 0, none⟩))) rfl ?_)
    refine s_nil ?_
    refine t_norm (hK9 _ _ ?_)
    refine wp_seq_k fun K13 hK13 => ?_
    refine wp_seq_k fun K14 hK14 => ?_
    refine c_region ?_
    refine s_op (o_move (v := (.pointer (some ⟨b10, 0, none⟩))) rfl ?_)
    refine s_op (o_callf (vs := #[(.pointer (some ⟨b10, 0, none⟩))]) ca59 rfl (args1 rfl) (tmend_on (d := d) (n := n) ((hH12.front 2 rfl).front 2 rfl).all3 hd hf (by omega) hlo h4 hon h64 (hg.mono (seg_sub 0 rfl)) hn hln) ?_)
    rintro _ w19 ⟨sg15, rfl, hd16, hX17⟩
    refine ⟨_, rfl, ?_⟩
    have hH18 : Has E w19 [sg15, [Hp.one pb (.cells #[(.bool ((mendR d n).2).p.off), (.bool ((mendR d n).2).p.armed), (.int .i64 ((mendR d n).2).p.left), (.int .i64 ((mendR d n).2).p.uses)] 101 (0, 0))], [Hp.one b10 (.cells #[(.pointer (some ⟨db, 0, none⟩)), (.int .i64 n)] 98 (0, 0))], R] := hX17.of_all3
    refine s_op (o_assign (v := (.int .i64 ((mendR d n).1))) rfl ?_)
    refine s_nil ?_
    refine t_norm (hK14 _ _ ?_)
    refine wp_seq_k fun K20 hK20 => ?_
    refine c_region ?_
    refine s_op (o_move (v := (.int .i64 ((mendR d n).1))) rfl ?_)
    refine s_op (o_neq (a := (mendR d n).1) (b := 0) rfl rfl ?_)
    refine s_nil ?_
    refine t_norm (hK20 _ _ ?_)
    refine c_cond rfl (fun h21 => ?_) (fun h21 => ?_)
    · -- (mendR d n).1 ≠ 0
      exact absurd hm h21
    · -- not: (mendR d n).1 ≠ 0
      refine wp_skip ?_
      refine t_norm (hK13 _ _ ?_)
      refine wp_seq_k fun K22 hK22 => ?_
      refine c_region ?_
      refine s_op (o_move (v := (.pointer (some ⟨b10, 0, none⟩))) rfl ?_)
      refine s_op (o_assign (v := (.pointer (some ⟨b10, 0, none⟩))) rfl ?_)
      refine s_op (o_assign (v := (.int .i64 0)) rfl ?_)
      refine s_nil ?_
      refine t_norm (hK22 _ _ ?_)
      refine wp_ret ?_
      refine c_ret2 Tryz.results21  (v := (.pointer (some ⟨b10, 0, none⟩))) rfl (x := (.int .i64 0)) rfl ?_
      have hH23 : Has E w19 [[Hp.one b10 (.cells #[(.pointer (some ⟨db, 0, none⟩)), (.int .i64 n)] 98 (0, 0))], sg15, [Hp.one pb (.cells #[(.bool ((mendR d n).2).p.off), (.bool ((mendR d n).2).p.armed), (.int .i64 ((mendR d n).2).p.left), (.int .i64 ((mendR d n).2).p.uses)] 101 (0, 0))], R] := ((((hH18.front 3 rfl).front 2 rfl).front 2 rfl).front 3 rfl).first 4 rfl
      exact ⟨_, _, rfl, hd16, hH23⟩
set_option maxHeartbeats 4000000 in
theorem topen_err {E w : World} {R sg : List Hp} {pb db : Nat} {d : Dv} (hH : Has E w [sg, [Hp.one pb (.cells #[(.bool d.p.off), (.bool d.p.armed), (.int .i64 d.p.left), (.int .i64 d.p.uses)] 101 (0, 0))], R]) (hd : DevAt pb sg db d.la d.lo) {n : Int} {k : Nat} (hf : Few d.p k) (hk : k ≤ 850000) (hlo : d.lo = []) (h4 : d.la.length ≤ 4096) (hn : 1 ≤ n ∧ n ≤ 64) (hln : 5 + n * 4 ≤ d.la.length) (hg : CellsAt R 1 0 nibV) (h64 : Full64 d.la) (hon : d.p.off = false) (hm : (mendR d n).1 ≠ 0) :
    Calls Tryz.prog 21 #[(.pointer (some ⟨db, 0, none⟩)), (.int .i64 n)] w fun e w' => ∃ sg', e = .returned (.tuple #[.pointer none, .int .i64 (mendR d n).1]) ∧ DevAt pb sg' db (mendR d n).2.la (mendR d n).2.lo ∧ Has E w' [sg', [Hp.one pb (.cells #[(.bool ((mendR d n).2).p.off), (.bool ((mendR d n).2).p.armed), (.int .i64 ((mendR d n).2).p.left), (.int .i64 ((mendR d n).2).p.uses)] 101 (0, 0))], R] := by
  refine c_enter (args := [(.pointer (some ⟨db, 0, none⟩)), (.int .i64 n)]) Tryz.func21 rfl Tryz.ntmps21 (by simp) ?_
  refine wp_seq_k fun K1 hK1 => ?_
  refine c_region ?_
  refine s_op (o_assign (v := (.pointer none)) rfl ?_)
  refine s_op (o_assign (v := (.int .i64 0)) rfl ?_)
  refine s_nil ?_
  refine t_norm (hK1 _ _ ?_)
  refine wp_seq_k fun K2 hK2 => ?_
  refine wp_seq_k fun K3 hK3 => ?_
  refine c_region ?_
  refine s_op (o_move (v := (.pointer (some ⟨db, 0, none⟩))) rfl ?_)
  refine s_op (o_move (v := (.int .i64 n)) rfl ?_)
  refine s_op (o_callf (vs := #[(.pointer (some ⟨db, 0, none⟩)), (.int .i64 n)]) ca50 rfl (args2 rfl rfl) (begin_ok (d := d) ((hH.front 1 rfl).front 1 rfl).all2 hd (n := n) h4 hn hln hon) ?_)
  rintro _ w6 ⟨rfl, hX4⟩
  refine ⟨_, rfl, ?_⟩
  have hH5 : Has E w6 [sg, [Hp.one pb (.cells #[(.bool d.p.off), (.bool d.p.armed), (.int .i64 d.p.left), (.int .i64 d.p.uses)] 101 (0, 0))], R] := hX4.of_all2
  refine s_op (o_assign (v := (.int .i64 (0 : Int))) rfl ?_)
  refine s_nil ?_
  refine t_norm (hK3 _ _ ?_)
  refine wp_seq_k fun K7 hK7 => ?_
  refine c_region ?_
  refine s_op (o_move (v := (.int .i64 (0 : Int))) rfl ?_)
  refine s_op (o_neq (a := (0 : Int)) (b := 0) rfl rfl ?_)
  refine s_nil ?_
  refine t_norm (hK7 _ _ ?_)
  refine c_cond rfl (fun h8 => ?_) (fun h8 => ?_)
  · -- (0 : Int) ≠ 0
    exact absurd rfl h8
  · -- not: (0 : Int) ≠ 0
    refine wp_skip ?_
    refine t_norm (hK2 _ _ ?_)
    refine wp_seq_k fun K9 hK9 => ?_
    refine c_region ?_
    refine s_op (o_move (v := (.pointer (some ⟨db, 0, none⟩))) rfl ?_)
    refine s_op (o_move (v := (.int .i64 n)) rfl ?_)
    refine s_op (o_sight (v := (.agg #[(.pointer (some ⟨db, 0, none⟩)), (.int .i64 n)])) (fun _ => by kernel_rfl) ?_)
    refine s_op (o_box (cs := #[(.pointer (some ⟨db, 0, none⟩)), (.int .i64 n)]) rfl rfl hH5 fun b10 w11 hH12 => ?_)
    refine s_op (o_assign (v := (.pointer (some ⟨b10, 0, none⟩))) rfl ?_)
    refine s_nil ?_
    refine t_norm (hK9 _ _ ?_)
    refine wp_seq_k fun K13 hK13 => ?_
    refine wp_seq_k fun K14 hK14 => ?_
    refine c_region ?_
    refine s_op (o_move (v := (.pointer (some ⟨b10, 0, none⟩))) rfl ?_)
    refine s_op (o_callf (vs := #[(.pointer (some ⟨b10, 0, none⟩))]) ca59 rfl (args1 rfl) (tmend_on (d := d) (n := n) ((hH12.front 2 rfl).front 2 rfl).all3 hd hf (by omega) hlo h4 hon h64 (hg.mono (seg_sub 0 rfl)) hn hln) ?_)
    rintro _ w19 ⟨sg15, rfl, hd16, hX17⟩
    refine ⟨_, rfl, ?_⟩
    have hH18 : Has E w19 [sg15, [Hp.one pb (.cells #[(.bool ((mendR d n).2).p.off), (.bool ((mendR d n).2).p.armed), (.int .i64 ((mendR d n).2).p.left), (.int .i64 ((mendR d n).2).p.uses)] 101 (0, 0))], [Hp.one b10 (.cells #[(.pointer (some ⟨db, 0, none⟩)), (.int .i64 n)] 98 (0, 0))], R] := hX17.of_all3
    refine s_op (o_assign (v := (.int .i64 ((mendR d n).1))) rfl ?_)
    refine s_nil ?_
    refine t_norm (hK14 _ _ ?_)
    refine wp_seq_k fun K20 hK20 => ?_
    refine c_region ?_
    refine s_op (o_move (v := (.int .i64 ((mendR d n).1))) rfl ?_)
    refine s_op (o_neq (a := (mendR d n).1) (b := 0) rfl rfl ?_)
    refine s_nil ?_
    refine t_norm (hK20 _ _ ?_)
    refine c_cond rfl (fun h21 => ?_) (fun h21 => ?_)
    · -- (mendR d n).1 ≠ 0
      refine wp_seq_k fun K22 hK22 => ?_
      refine c_region ?_
      refine s_op (o_move (v := (.int .i64 ((mendR d n).1))) rfl ?_)
      refine s_op (o_assign (v := (.pointer none)) rfl ?_)
      refine s_op (o_assign (v := (.int .i64 ((mendR d n).1))) rfl ?_)
      refine s_nil ?_
      refine t_norm (hK22 _ _ ?_)
      refine wp_ret ?_
      refine t_ret (c_ret2 Tryz.results21  (v := (.pointer none)) rfl (x := (.int .i64 ((mendR d n).1))) rfl ?_)
      have hH23 : Has E w19 [sg15, [Hp.one pb (.cells #[(.bool ((mendR d n).2).p.off), (.bool ((mendR d n).2).p.armed), (.int .i64 ((mendR d n).2).p.left), (.int .i64 ((mendR d n).2).p.uses)] 101 (0, 0))], R] := (((hH18.front 3 rfl).front 2 rfl).front 2 rfl).first 3 rfl
      exact ⟨_, rfl, hd16, hH23⟩
    · -- not: (mendR d n).1 ≠ 0
      exact absurd hm h21
end Go.Q
namespace Go.Q
open Go.Proofs
set_option linter.unusedVariables false
set_option maxRecDepth 100000
attribute [local irreducible] wpList OK Code.wp
set_option maxHeartbeats 4000000 in
theorem tpage_on {E w : World} {R sg : List Hp} {pb db tb : Nat} {d : Dv} {n : Int} (hH : Has E w [sg, [Hp.one pb (.cells #[(.bool d.p.off), (.bool d.p.armed), (.int .i64 d.p.left), (.int .i64 d.p.uses)] 101 (0, 0))], [Hp.one tb (.cells #[(.pointer (some ⟨db, 0, none⟩)), (.int .i64 n)] 98 (0, 0))], R]) (hd : DevAt pb sg db d.la d.lo) (hlo : d.lo = []) (hon : d.p.off = false) (h64 : Full64 d.la) (h4 : d.la.length ≤ 4096) (hn : 1 ≤ n ∧ n ≤ 64) (hln : 5 + n * 4 ≤ d.la.length) (hg : CellsAt R 1 0 nibV) {x : Int} (hx : 0 ≤ x ∧ x < n) :
    Calls Tryz.prog 24 #[(.pointer (some ⟨tb, 0, none⟩)), (.int .i64 x)] w fun e w' => ∃ v hs, e = .returned (.tuple #[.agg #[.int .i64 (pgOf (pgB d.la (plc x)) x).1.1, .int .i64 (pgOf (pgB d.la (plc x)) x).1.2.1, v], .int .i64 (pgOf (pgB d.la (plc x)) x).2]) ∧ Own 70 2 v (pgOf (pgB d.la (plc x)) x).1.2.2.length ((pgOf (pgB d.la (plc x)) x).1.2.2.flatMap ceC) hs ∧ Has E w' [hs, sg, [Hp.one pb (.cells #[(.bool d.p.off), (.bool d.p.armed), (.int .i64 d.p.left), (.int .i64 d.p.uses)] 101 (0, 0))], [Hp.one tb (.cells #[(.pointer (some ⟨db, 0, none⟩)), (.int .i64 n)] 98 (0, 0))], R] := by
  have hBl_ := pgB_len h64 (x := plc x) (by unfold plc; omega) (by unfold plc; omega)
  refine c_enter (args := [(.pointer (some ⟨tb, 0, none⟩)), (.int .i64 x)]) Tryz.func24 rfl Tryz.ntmps24 (by simp) ?_
  refine wp_seq_k fun K1 hK1 => ?_
  refine c_region ?_
  refine s_op (o_alloc (cs := #[(.int .i64 0), (.int .i64 0), (.slice none 0 0)]) ti36 rfl hH fun b2 w3 hH4 => ?_)
  refine s_op (o_assign (v := (.int .i64 0)) rfl ?_)
  refine s_nil ?_
  refine t_norm (hK1 _ _ ?_)
  refine wp_seq_k fun K5 hK5 => ?_
  refine wp_block ?_
  refine wp_seq_k fun K6 hK6 => ?_
  refine c_region ?_
  refine s_op (o_move (v := (.pointer (some ⟨tb, 0, none⟩))) rfl ?_)
  refine s_op (o_pnil (p := some _) Tryz.underlying25 rfl rfl ?_)
  refine s_op (o_assign (v := (.bool false)) rfl ?_)
  refine s_nil ?_
  refine t_norm (hK6 _ _ ?_)
  refine c_false rfl rfl ?_
  refine wp_seq_k fun K7 hK7 => ?_
  refine c_region ?_
  refine s_op (o_move (v := (.int .i64 x)) rfl ?_)
  refine s_op (o_lss (a := x) (b := 0) rfl rfl ?_)
  refine s_op (o_move (v := (.bool (decide (x < 0)))) rfl ?_)
  by_cases h8 : x < 0
  · -- x < 0
    exfalso; omega
  · -- not: x < 0
    refine s_on 17 rfl (congrArg Value.bool (decide_eq_false h8)) (o_move (v := (.int .i64 x)) rfl ?_)
    refine s_on 17 rfl (congrArg Value.bool (decide_eq_false h8)) (o_move (v := (.pointer (some ⟨tb, 0, none⟩))) rfl ?_)
    refine s_on 17 rfl (congrArg Value.bool (decide_eq_false h8)) (o_nilCheck rfl ?_)
    refine s_on 17 rfl (congrArg Value.bool (decide_eq_false h8)) (o_fieldAddr (k := 1) (fun _ => by kernel_rfl) rfl ?_)
    refine s_on 17 rfl (congrArg Value.bool (decide_eq_false h8)) (o_load1 (v := (.int .i64 n)) Tryz.underlying3 rfl rfl hH4 (seg_sub 3 rfl) (CellsAt.one rfl) ?_)
    refine s_on 17 rfl (congrArg Value.bool (decide_eq_false h8)) (o_geq (a := x) (b := n) rfl rfl ?_)
    refine s_op (o_pick_f (u := (.bool (decide (n ≤ x)))) ((rfl : _ = _).trans (congrArg Value.bool (decide_eq_false h8))) rfl ?_)
    refine s_op (o_assign (v := (.bool (decide (n ≤ x)))) rfl ?_)
    refine s_nil ?_
    refine t_norm (hK7 _ _ ?_)
    refine c_cond rfl (fun h9 => ?_) (fun h9 => ?_)
    · -- n ≤ x
      exfalso; omega
    · -- not: n ≤ x
      refine wp_skip ?_
      refine b_norm ?_
      refine t_norm (hK5 _ _ ?_)
      refine wp_seq_k fun K10 hK10 => ?_
      refine c_region ?_
      refine s_op (o_move (v := (.pointer (some ⟨tb, 0, none⟩))) rfl ?_)
      refine s_op (o_move (v := (.int .i64 x)) rfl ?_)
      refine s_op (o_callf (vs := #[(.int .i64 x)]) ca64 rfl (args1 rfl) (place_c hH4.all (x := x) ⟨by omega, by omega⟩) ?_)
      rintro _ w13 ⟨rfl, hX11⟩
      refine ⟨_, rfl, ?_⟩
      have hH12 := hX11.of_all
      refine s_op (o_callf (vs := #[(.pointer (some ⟨tb, 0, none⟩)), (.int .i64 (plc x))]) ca63 rfl (args2 rfl rfl) (tget_on (d := d) (n := n) (((hH12.front 3 rfl).front 3 rfl).front 3 rfl).all3 hd hlo hon h64 (x := plc x) (by unfold plc; exact ⟨by omega, by omega⟩) h4) ?_)
      rintro _ w16 ⟨rfl, hX14⟩
      refine ⟨_, rfl, ?_⟩
      have hH15 : Has E w16 [sg, [Hp.one pb (.cells #[(.bool d.p.off), (.bool d.p.armed), (.int .i64 d.p.left), (.int .i64 d.p.uses)] 101 (0, 0))], [Hp.one tb (.cells #[(.pointer (some ⟨db, 0, none⟩)), (.int .i64 n)] 98 (0, 0))], [Hp.one b2 (.cells #[(.int .i64 0), (.int .i64 0), (.slice none 0 0)] 36 (0, 0))], R] := hX14.of_all3
      refine s_op (o_move (v := (.tuple #[(S (pgB d.la (plc x))), (.int .i64 (0 : Int))])) rfl ?_)
      refine s_op (o_extract (v := (S (pgB d.la (plc x)))) rfl rfl ?_)
      refine s_op (o_extract (v := (.int .i64 (0 : Int))) rfl rfl ?_)
      refine s_op (o_assign (v := (S (pgB d.la (plc x)))) rfl ?_)
      refine s_op (o_assign (v := (.int .i64 (0 : Int))) rfl ?_)
      refine s_nil ?_
      refine t_norm (hK10 _ _ ?_)
      refine wp_seq_k fun K17 hK17 => ?_
      refine wp_seq_k fun K18 hK18 => ?_
      refine c_region ?_
      refine s_op (o_move (v := (.int .i64 (0 : Int))) rfl ?_)
      refine s_op (o_neq (a := (0 : Int)) (b := 0) rfl rfl ?_)
      refine s_nil ?_
      refine t_norm (hK18 _ _ ?_)
      refine c_cond rfl (fun h19 => ?_) (fun h19 => ?_)
      · -- (0 : Int) ≠ 0
        exact absurd rfl h19
      · -- not: (0 : Int) ≠ 0
        refine wp_skip ?_
        refine t_norm (hK17 _ _ ?_)
        refine wp_seq_k fun K20 hK20 => ?_
        refine wp_seq_k fun K21 hK21 => ?_
        refine c_region ?_
        refine s_op (o_move (v := (S (pgB d.la (plc x)))) rfl ?_)
        refine s_op (o_callf (vs := #[(S (pgB d.la (plc x)))]) ca65 rfl (args1 rfl) (tblank_c hH15.all (pgB d.la (plc x)) (by omega)) ?_)
        rintro _ w24 ⟨rfl, hX22⟩
        refine ⟨_, rfl, ?_⟩
        have hH23 := hX22.of_all
        refine s_nil ?_
        refine t_norm (hK21 _ _ ?_)
        refine c_cond rfl (fun h25 => ?_) (fun h25 => ?_)
        · -- (pgB d.la (plc x)) = zer (pgB d.la (plc x)).length
          refine wp_seq_k fun K26 hK26 => ?_
          refine c_region ?_
          refine s_op (o_move (v := (.int .i64 x)) rfl ?_)
          refine s_op (o_sight (v := (.agg #[(.int .i64 x), (.int .i64 0), (.slice none 0 0)])) (fun _ => by kernel_rfl) ?_)
          refine s_eff (o_storeN (vs := [(.int .i64 x), (.int .i64 0), (.slice none 0 0)]) (c' := #[(.int .i64 x), (.int .i64 0), (.slice none 0 0)]) ti36 rfl rfl rfl rfl (by intro u hu; simp only [List.mem_cons, List.not_mem_nil, or_false] at hu; rcases hu with rfl | rfl | rfl <;> first | rfl) (by simp) (by kernel_rfl) (hH23.front 3 rfl) fun w27 hH28 => ?_)
          refine s_op (o_assign (v := (.int .i64 0)) rfl ?_)
          refine s_nil ?_
          refine t_norm (hK26 _ _ ?_)
          refine wp_ret ?_
          refine t_ret (c_retC2 Tryz.results24 rfl (run_loadVarN (cs := [(.int .i64 x), (.int .i64 0), (.slice none 0 0)]) Tryz.underlying36 rfl ti36 hH28 (seg_sub 0 rfl) (CellsAt.one rfl)) (x := (.int .i64 0)) rfl ?_)
          have hH29 : Has E w27 [[], sg, [Hp.one pb (.cells #[(.bool d.p.off), (.bool d.p.armed), (.int .i64 d.p.left), (.int .i64 d.p.uses)] 101 (0, 0))], [Hp.one tb (.cells #[(.pointer (some ⟨db, 0, none⟩)), (.int .i64 n)] 98 (0, 0))], R] := (Has.nil ((((hH28.front 4 rfl).front 4 rfl).front 4 rfl).front 4 rfl)).first 5 rfl
          have hE_ : (pgOf (pgB d.la (plc x)) x) = _ := pg_blank h25 hBl_
          exact ⟨_, _, by rw [hE_], by rw [hE_]; exact (Own.nil 70 2), hH29⟩
        · -- not: (pgB d.la (plc x)) = zer (pgB d.la (plc x)).length
          refine wp_skip ?_
          refine t_norm (hK20 _ _ ?_)
          refine wp_seq_k fun K30 hK30 => ?_
          refine c_region ?_
          refine s_op (o_move (v := (S (pgB d.la (plc x)))) rfl ?_)
          refine s_op (o_callf (vs := #[(S (pgB d.la (plc x)))]) ca66 rfl (args1 rfl) (pread_c (s := (pgB d.la (plc x))) hH23.all (hg.mono (seg_sub 4 rfl))) ?_)
          rintro _ w36 ⟨v31, s32, rfl, ho33, hX34⟩
          refine ⟨_, rfl, ?_⟩
          have hH35 : Has E w36 [s32, sg, [Hp.one pb (.cells #[(.bool d.p.off), (.bool d.p.armed), (.int .i64 d.p.left), (.int .i64 d.p.uses)] 101 (0, 0))], [Hp.one tb (.cells #[(.pointer (some ⟨db, 0, none⟩)), (.int .i64 n)] 98 (0, 0))], [Hp.one b2 (.cells #[(.int .i64 0), (.int .i64 0), (.slice none 0 0)] 36 (0, 0))], R] := hX34.of_all1
          refine s_op (o_move (v := (.tuple #[(.agg #[(.int .i64 ((readP (pgB d.la (plc x))).2.1)), (.int .i64 ((readP (pgB d.la (plc x))).2.2.1)), v31]), (.bool ((readP (pgB d.la (plc x))).1))])) rfl ?_)
          refine s_op (o_extract (v := (.agg #[(.int .i64 ((readP (pgB d.la (plc x))).2.1)), (.int .i64 ((readP (pgB d.la (plc x))).2.2.1)), v31])) rfl rfl ?_)
          refine s_op (o_extract (v := (.bool ((readP (pgB d.la (plc x))).1))) rfl rfl ?_)
          refine s_op (o_alloc (cs := #[(.int .i64 0), (.int .i64 0), (.slice none 0 0)]) ti36 rfl hH35 fun b37 w38 hH39 => ?_)
          refine s_eff (o_storeN (vs := [(.int .i64 ((readP (pgB d.la (plc x))).2.1)), (.int .i64 ((readP (pgB d.la (plc x))).2.2.1)), v31]) (c' := #[(.int .i64 ((readP (pgB d.la (plc x))).2.1)), (.int .i64 ((readP (pgB d.la (plc x))).2.2.1)), v31]) ti36 rfl rfl rfl rfl (by intro u hu; simp only [List.mem_cons, List.not_mem_nil, or_false] at hu; rcases hu with rfl | rfl | rfl <;> first | rfl | exact ho33.one) (by simp) (by kernel_rfl) (hH39.front 0 rfl) fun w40 hH41 => ?_)
          refine s_op (o_assign (v := (.bool ((readP (pgB d.la (plc x))).1))) rfl ?_)
          refine s_nil ?_
          refine t_norm (hK30 _ _ ?_)
          refine wp_seq_k fun K42 hK42 => ?_
          refine wp_seq_k fun K43 hK43 => ?_
          refine c_region ?_
          refine s_op (o_move (v := (.bool ((readP (pgB d.la (plc x))).1))) rfl ?_)
          refine s_op (o_not rfl ?_)
          refine s_op (o_move (v := (.bool (!((readP (pgB d.la (plc x))).1)))) rfl ?_)
          rcases Bool.eq_false_or_eq_true (!((readP (pgB d.la (plc x))).1)) with h44 | h44
          · -- !((readP (pgB d.la (plc x))).1)
            have h44_n : ((readP (pgB d.la (plc x))).1) = false := by simpa using h44
            refine s_off (b' := true) 48 rfl (congrArg Value.bool h44) rfl ?_
            refine s_off (b' := true) 48 rfl (congrArg Value.bool h44) rfl ?_
            refine s_off (b' := true) 48 rfl (congrArg Value.bool h44) rfl ?_
            refine s_off (b' := true) 48 rfl (congrArg Value.bool h44) rfl ?_
            refine s_op (o_pick_t (u := (.bool true)) ((rfl : _ = _).trans (congrArg Value.bool h44)) rfl ?_)
            refine s_nil ?_
            refine t_norm (hK43 _ _ ?_)
            refine c_true rfl rfl ?_
            refine wp_seq_k fun K45 hK45 => ?_
            refine c_region ?_
            refine s_op (o_sight (v := (.agg #[(.int .i64 0), (.int .i64 0), (.slice none 0 0)])) (fun _ => by kernel_rfl) ?_)
            refine s_eff (o_storeN (vs := [(.int .i64 0), (.int .i64 0), (.slice none 0 0)]) (c' := #[(.int .i64 0), (.int .i64 0), (.slice none 0 0)]) ti36 rfl rfl rfl rfl (by intro u hu; simp only [List.mem_cons, List.not_mem_nil, or_false] at hu; rcases hu with rfl | rfl | rfl <;> first | rfl) (by simp) (by kernel_rfl) (hH41.front 5 rfl) fun w46 hH47 => ?_)
            refine s_op (o_assign (v := (.int .i64 9)) rfl ?_)
            refine s_nil ?_
            refine t_norm (hK45 _ _ ?_)
            refine wp_ret ?_
            refine t_ret (c_retC2 Tryz.results24 rfl (run_loadVarN (cs := [(.int .i64 0), (.int .i64 0), (.slice none 0 0)]) Tryz.underlying36 rfl ti36 hH47 (seg_sub 0 rfl) (CellsAt.one rfl)) (x := (.int .i64 9)) rfl ?_)
            have hH48 : Has E w46 [[], sg, [Hp.one pb (.cells #[(.bool d.p.off), (.bool d.p.armed), (.int .i64 d.p.left), (.int .i64 d.p.uses)] 101 (0, 0))], [Hp.one tb (.cells #[(.pointer (some ⟨db, 0, none⟩)), (.int .i64 n)] 98 (0, 0))], R] := (Has.nil ((((hH47.front 6 rfl).front 6 rfl).front 6 rfl).front 6 rfl)).first 5 rfl
            have hE_ : (pgOf (pgB d.la (plc x)) x) = _ := pg_bad h25 hBl_ (fun k => by first | exact absurd k.1 (by simpa using h44))
            exact ⟨_, _, by rw [hE_], by rw [hE_]; exact (Own.nil 70 2), hH48⟩
          · -- not: !((readP (pgB d.la (plc x))).1)
            have h44_n : ((readP (pgB d.la (plc x))).1) = true := by simpa using h44
            refine s_on 48 rfl (congrArg Value.bool h44) (o_fieldAddr (k := 0) (fun _ => by kernel_rfl) rfl ?_)
            refine s_on 48 rfl (congrArg Value.bool h44) (o_load1 (v := (.int .i64 ((readP (pgB d.la (plc x))).2.1))) Tryz.underlying3 rfl rfl hH41 (seg_sub 0 rfl) (CellsAt.one rfl) ?_)
            refine s_on 48 rfl (congrArg Value.bool h44) (o_move (v := (.int .i64 x)) rfl ?_)
            refine s_on 48 rfl (congrArg Value.bool h44) (o_neq (a := (readP (pgB d.la (plc x))).2.1) (b := x) rfl rfl ?_)
            refine s_op (o_pick_f (u := (.bool (decide ((readP (pgB d.la (plc x))).2.1 ≠ x)))) ((rfl : _ = _).trans (congrArg Value.bool h44)) rfl ?_)
            refine s_nil ?_
            refine t_norm (hK43 _ _ ?_)
            refine c_cond rfl (fun h49 => ?_) (fun h49 => ?_)
            · -- (readP (pgB d.la (plc x))).2.1 ≠ x
              refine wp_seq_k fun K50 hK50 => ?_
              refine c_region ?_
              refine s_op (o_sight (v := (.agg #[(.int .i64 0), (.int .i64 0), (.slice none 0 0)])) (fun _ => by kernel_rfl) ?_)
              refine s_eff (o_storeN (vs := [(.int .i64 0), (.int .i64 0), (.slice none 0 0)]) (c' := #[(.int .i64 0), (.int .i64 0), (.slice none 0 0)]) ti36 rfl rfl rfl rfl (by intro u hu; simp only [List.mem_cons, List.not_mem_nil, or_false] at hu; rcases hu with rfl | rfl | rfl <;> first | rfl) (by simp) (by kernel_rfl) (hH41.front 5 rfl) fun w51 hH52 => ?_)
              refine s_op (o_assign (v := (.int .i64 9)) rfl ?_)
              refine s_nil ?_
              refine t_norm (hK50 _ _ ?_)
              refine wp_ret ?_
              refine t_ret (c_retC2 Tryz.results24 rfl (run_loadVarN (cs := [(.int .i64 0), (.int .i64 0), (.slice none 0 0)]) Tryz.underlying36 rfl ti36 hH52 (seg_sub 0 rfl) (CellsAt.one rfl)) (x := (.int .i64 9)) rfl ?_)
              have hH53 : Has E w51 [[], sg, [Hp.one pb (.cells #[(.bool d.p.off), (.bool d.p.armed), (.int .i64 d.p.left), (.int .i64 d.p.uses)] 101 (0, 0))], [Hp.one tb (.cells #[(.pointer (some ⟨db, 0, none⟩)), (.int .i64 n)] 98 (0, 0))], R] := (Has.nil ((((hH52.front 6 rfl).front 6 rfl).front 6 rfl).front 6 rfl)).first 5 rfl
              have hE_ : (pgOf (pgB d.la (plc x)) x) = _ := pg_bad h25 hBl_ (fun k => by first | exact absurd k.1 (by simpa using h44) | exact h49 k.2)
              exact ⟨_, _, by rw [hE_], by rw [hE_]; exact (Own.nil 70 2), hH53⟩
            · -- not: (readP (pgB d.la (plc x))).2.1 ≠ x
              refine wp_skip ?_
              refine t_norm (hK42 _ _ ?_)
              refine wp_seq_k fun K54 hK54 => ?_
              refine c_region ?_
              refine s_op (o_loadN (cs := [(.int .i64 ((readP (pgB d.la (plc x))).2.1)), (.int .i64 ((readP (pgB d.la (plc x))).2.2.1)), v31]) Tryz.underlying36 rfl ti36 rfl hH41 (seg_sub 0 rfl) (CellsAt.one rfl) ?_)
              refine s_eff (o_storeN (vs := [(.int .i64 ((readP (pgB d.la (plc x))).2.1)), (.int .i64 ((readP (pgB d.la (plc x))).2.2.1)), v31]) (c' := #[(.int .i64 ((readP (pgB d.la (plc x))).2.1)), (.int .i64 ((readP (pgB d.la (plc x))).2.2.1)), v31]) ti36 rfl rfl rfl rfl (by intro u hu; simp only [List.mem_cons, List.not_mem_nil, or_false] at hu; rcases hu with rfl | rfl | rfl <;> first | rfl | exact ho33.one) (by simp) (by kernel_rfl) (hH41.front 5 rfl) fun w55 hH56 => ?_)
              refine s_op (o_assign (v := (.int .i64 0)) rfl ?_)
              refine s_nil ?_
              refine t_norm (hK54 _ _ ?_)
              refine wp_ret ?_
              refine c_retC2 Tryz.results24 rfl (run_loadVarN (cs := [(.int .i64 ((readP (pgB d.la (plc x))).2.1)), (.int .i64 ((readP (pgB d.la (plc x))).2.2.1)), v31]) Tryz.underlying36 rfl ti36 hH56 (seg_sub 0 rfl) (CellsAt.one rfl)) (x := (.int .i64 0)) rfl ?_
              have hH57 : Has E w55 [s32, sg, [Hp.one pb (.cells #[(.bool d.p.off), (.bool d.p.armed), (.int .i64 d.p.left), (.int .i64 d.p.uses)] 101 (0, 0))], [Hp.one tb (.cells #[(.pointer (some ⟨db, 0, none⟩)), (.int .i64 n)] 98 (0, 0))], R] := (((((hH56.front 6 rfl).front 6 rfl).front 6 rfl).front 6 rfl).front 6 rfl).first 5 rfl
              have hE_ : (pgOf (pgB d.la (plc x)) x) = _ := pg_read h25 hBl_ (by simpa using h44) (Classical.not_not.1 h49)
              exact ⟨_, _, by rw [hE_], by rw [hE_]; exact ho33, hH57⟩
set_option maxHeartbeats 4000000 in
theorem tpages_c {E w : World} {R : List Hp} (hH : Has E w [R]) {tb db : Nat} {n : Int} (hc : CellsAt R tb 0 [(.pointer (some ⟨db, 0, none⟩)), (.int .i64 n)]) :
    Calls Tryz.prog 28 #[(.pointer (some ⟨tb, 0, none⟩))] w fun e w' => e = .returned (.int .i64 n) ∧ Has E w' [R] := by
  refine c_enter (args := [(.pointer (some ⟨tb, 0, none⟩))]) Tryz.func28 rfl Tryz.ntmps28 (by simp) ?_
  refine wp_seq_k fun K1 hK1 => ?_
  refine c_region ?_
  refine s_op (o_assign (v := (.int .i64 0)) rfl ?_)
  refine s_nil ?_
  refine t_norm (hK1 _ _ ?_)
  refine wp_seq_k fun K2 hK2 => ?_
  refine wp_seq_k fun K3 hK3 => ?_
  refine c_region ?_
  refine s_op (o_move (v := (.pointer (some ⟨tb, 0, none⟩))) rfl ?_)
  refine s_op (o_pnil (p := some _) Tryz.underlying25 rfl rfl ?_)
  refine s_nil ?_
  refine t_norm (hK3 _ _ ?_)
  refine c_false rfl rfl ?_
  refine wp_skip ?_
  refine t_norm (hK2 _ _ ?_)
  refine wp_seq_k fun K4 hK4 => ?_
  refine c_region ?_
  refine s_op (o_move (v := (.pointer (some ⟨tb, 0, none⟩))) rfl ?_)
  refine s_op (o_nilCheck rfl ?_)
  refine s_op (o_fieldAddr (k := 1) (fun _ => by kernel_rfl) rfl ?_)
  refine s_op (o_load1 (v := (.int .i64 n)) Tryz.underlying3 rfl rfl hH (seg_sub 0 rfl) (CellsAt.field (k := 1) (ds := [(.int .i64 n)]) hc rfl) ?_)
  refine s_op (o_assign (v := (.int .i64 n)) rfl ?_)
  refine s_nil ?_
  refine t_norm (hK4 _ _ ?_)
  refine wp_ret ?_
  refine c_ret1 Tryz.results28  (v := (.int .i64 n)) rfl ?_
  exact ⟨rfl, hH⟩
end Go.Q
namespace Go.Q
def Dv.sy2 (d : Dv) : Dv := ⟨useS d.p, if useB d.p = true then nowS d.la d.lo else d.la, syncO d.p d.lo⟩
theorem sy_eq {d : Dv} (h : LoOk d.lo d.la.length) : d.sy = d.sy2 := by
  unfold Dv.sy Dv.sy2 syncA
  rw [now_sync h]
def wrsy2 (d : Dv) (l : Grp) : Int × Dv := if (wrs d l).1 = 0 then ((wrs d l).2.syE, (wrs d l).2.sy2) else wrs d l
theorem wrsy_eq {d : Dv} {g : Grp} (h : LoOk d.lo d.la.length) : wrsy d g = wrsy2 d g := by
  unfold wrsy wrsy2
  rw [sy_eq (d := (wrs d g).2) (by rw [wrs_la]; exact lo_wrs g d h)]
def runs2 : Dv → List Grp → Int × Dv
  | d, [] => (0, d)
  | d, g :: t => if (wrsy2 d g).1 = 0 then runs2 (wrsy2 d g).2 t else wrsy2 d g
theorem runs_eq : ∀ (gs : List Grp) (d : Dv), d.lo = [] → runs d gs = runs2 d gs
  | [], _, _ => rfl
  | g :: t, d, h => by
    have e : wrsy d g = wrsy2 d g := wrsy_eq (by rw [h]; exact LoOk.nil _)
    have e1 : runs d (g :: t) = if (wrsy d g).1 = 0 then runs (wrsy d g).2 t else wrsy d g := rfl
    have e2 : runs2 d (g :: t) = if (wrsy2 d g).1 = 0 then runs2 (wrsy2 d g).2 t else wrsy2 d g := rfl
    rw [e1, e2]
    by_cases h0 : (wrsy d g).1 = 0
    · rw [if_pos h0, if_pos (by rw [← e]; exact h0), ← e]
      exact runs_eq t _ (wrsy_zero h0)
    · rw [if_neg h0, if_neg (by rw [← e]; exact h0), e]
def st2 (d : Dv) (n : Int) (a : Pg) : Int × Dv := if lpg a = [] ∨ n ≤ a.1 then (1, d) else runs2 d (stG a.1 (lpg a))
theorem st_eq {d : Dv} {n : Int} {a : Pg} (h : d.lo = []) : st1 d n a = st2 d n a := by
  unfold st1 st2
  rw [runs_eq _ _ h]
theorem stL_one {d : Dv} {n : Int} {a : Pg} : stL d n [a] = st1 d n a := by
  show (if (st1 d n a).1 = 0 then (0, (st1 d n a).2) else st1 d n a) = _
  split
  · rename_i h; rw [← h]
  · rfl
def mend2 (d : Dv) (n : Int) : Int × Dv :=
  if d.p.off = true then (6, d) else if (notedS (sec d.la 0) n).2 ≠ 0 then (9, d) else if (notedS (sec d.la 0) n).1 < 0 then (0, d)
  else if (readP (pgB d.la 1)).1 = true ∧ (readP (pgB d.la 1)).2.1 = (notedS (sec d.la 0) n).1 then runs2 d (mendG (notedS (sec d.la 0) n).1 (pgB d.la 1)) else (9, d)
theorem mend_eq {d : Dv} {n : Int} (h : d.lo = []) : mendR d n = mend2 d n := by
  unfold mendR mend2
  rw [runs_eq _ _ h]
def awA : Pg := (2, 7, .slice none 0 0, [])
def aw0 : Dv := Dv.ar ⟨⟨false, false, 0 - (((50 : Nat) : Int) + 1), 0 + (((50 : Nat) : Int) + 1)⟩, List.replicate 50 blankS, []⟩ 9
def aw1 : Dv := (stL aw0 4 [awA]).2
def aw2 : Dv := aw1.cr [14]
def bw1 : Dv := (st2 aw0 4 awA).2
def bw2 : Dv := bw1.cr [14]
theorem aw1_eq : aw1 = bw1 := by unfold aw1 bw1; rw [stL_one, st_eq rfl]
theorem aw2_eq : aw2 = bw2 := by unfold aw2 bw2; rw [aw1_eq]
theorem aw2_lo : aw2.lo = [] := rfl
theorem aw3_h : mendR aw2 4 = mend2 aw2 4 := mend_eq aw2_lo
theorem aw3_k {a b : Dv} (e : a = b) : mend2 a 4 = mend2 b 4 := by rw [e]
theorem aw3_e : mend2 aw2 4 = mend2 bw2 4 := aw3_k aw2_eq
theorem aw3_s {x y : Int × Dv} (e : x = y) : x.2 = y.2 := by rw [e]
theorem aw3_t : mendR aw2 4 = mend2 bw2 4 := aw3_h.trans aw3_e
theorem aw3_u : (mendR aw2 4).2 = (mend2 bw2 4).2 := aw3_s aw3_t
set_option maxRecDepth 1000000
theorem aw_f : (stL aw0 4 [awA]).1 = 6 := by rw [stL_one, st_eq rfl]; decide +kernel
theorem aw_g : (mendR aw2 4).1 = 0 := by rw [mend_eq rfl, aw2_eq]; decide +kernel
theorem aw_p : pgOf (pgB (mendR aw2 4).2.la (plc 2)) 2 = ((2, 7, []), 0) := by rw [aw3_u]; decide +kernel
theorem aw_l1 : LoOk aw1.lo aw1.la.length := by rw [aw1_eq]; unfold LoOk inS; decide +kernel
theorem aw_64 : Full64 aw2.la := by rw [aw2_eq]; unfold Full64; decide +kernel
theorem aw_643 : Full64 (mendR aw2 4).2.la := by rw [aw3_u]; unfold Full64; decide +kernel
theorem aw_n : aw2.la.length = 50 ∧ (mendR aw2 4).2.la.length = 50 := by rw [mend_len, aw2_eq]; decide +kernel
theorem aw_on : (mendR aw2 4).2.p.off = false ∧ (mendR aw2 4).2.lo = [] := by rw [aw3_u]; decide +kernel
theorem aw_few0 : Few aw0.p 60 := by unfold Few; decide +kernel
theorem aw_few2 : Few aw2.p 80 := by rw [aw2_eq]; unfold Few; decide +kernel
end Go.Q
namespace Go.Q
open Go.Proofs
set_option linter.unusedVariables false
set_option maxRecDepth 100000
attribute [local irreducible] wpList OK Code.wp
set_option maxHeartbeats 4000000 in
theorem awake12_c {E w : World} {R : List Hp} (hH : Has E w [R]) (hg : CellsAt R 1 0 nibV) :
    Calls Tryz.prog 11 #[] w fun e w' => e = .returned (.bool true) ∧ Has E w' [R] := by
  refine c_enter (args := []) Tryz.func11 rfl Tryz.ntmps11 (by simp) ?_
  refine wp_seq_k fun K1 hK1 => ?_
  refine c_region ?_
  refine s_op (o_assign (v := (.bool false)) rfl ?_)
  refine s_nil ?_
  refine t_norm (hK1 _ _ ?_)
  refine wp_seq_k fun K2 hK2 => ?_
  refine c_region ?_
  refine s_op (o_callf (vs := #[(.pointer none), (.int .i64 50)]) ca14 rfl (args2 rfl rfl) (new_nil hH.all (n := 50) (by decide)) ?_)
  rintro _ w9 ⟨db3, pb4, sg5, rfl, hd6, hX7⟩
  refine ⟨_, rfl, ?_⟩
  have hH8 : Has E w9 [sg5, [Hp.one pb4 (.cells #[(.bool (Pw.mk false false 0 0).off), (.bool (Pw.mk false false 0 0).armed), (.int .i64 (Pw.mk false false 0 0).left), (.int .i64 (Pw.mk false false 0 0).uses)] 101 (0, 0))], R] := hX7.of_all2
  refine s_op (o_assign (v := (.pointer (some ⟨db3, 0, none⟩))) rfl ?_)
  refine s_nil ?_
  refine t_norm (hK2 _ _ ?_)
  refine wp_seq_k fun K10 hK10 => ?_
  refine c_region ?_
  refine s_op (o_move (v := (.pointer (some ⟨db3, 0, none⟩))) rfl ?_)
  refine s_op (o_callf (vs := #[(.pointer (some ⟨db3, 0, none⟩)), (.int .i64 4)]) ca13 rfl (args2 rfl rfl) (tfmt_ok (p := (Pw.mk false false 0 0)) (m := 50) ((hH8.front 1 rfl).front 1 rfl).all2 hd6 (n := 4) ⟨rfl, rfl⟩ Few.new (by decide) (by decide) (by decide) (by decide)) ?_)
  rintro _ w16 ⟨tb11, sg12, rfl, hd13, hX14⟩
  refine ⟨_, rfl, ?_⟩
  have hH15 : Has E w16 [[Hp.one tb11 (.cells #[(.pointer (some ⟨db3, 0, none⟩)), (.int .i64 4)] 98 (0, 0))], sg12, [Hp.one pb4 (.cells #[(.bool (Pw.mk false false (0 - (((50 : Nat) : Int) + 1)) (0 + (((50 : Nat) : Int) + 1))).off), (.bool (Pw.mk false false (0 - (((50 : Nat) : Int) + 1)) (0 + (((50 : Nat) : Int) + 1))).armed), (.int .i64 (Pw.mk false false (0 - (((50 : Nat) : Int) + 1)) (0 + (((50 : Nat) : Int) + 1))).left), (.int .i64 (Pw.mk false false (0 - (((50 : Nat) : Int) + 1)) (0 + (((50 : Nat) : Int) + 1))).uses)] 101 (0, 0))], R] := hX14.of_all3
  refine s_op (o_move (v := (.tuple #[(.pointer (some ⟨tb11, 0, none⟩)), (.int .i64 (0 : Int))])) rfl ?_)
  refine s_op (o_extract (v := (.pointer (some ⟨tb11, 0, none⟩))) rfl rfl ?_)
  refine s_op (o_extract (v := (.int .i64 (0 : Int))) rfl rfl ?_)
  refine s_op (o_assign (v := (.pointer (some ⟨tb11, 0, none⟩))) rfl ?_)
  refine s_op (o_assign (v := (.int .i64 (0 : Int))) rfl ?_)
  refine s_nil ?_
  refine t_norm (hK10 _ _ ?_)
  refine wp_seq_k fun K17 hK17 => ?_
  refine c_region ?_
  refine s_op (o_move (v := (.pointer (some ⟨db3, 0, none⟩))) rfl ?_)
  refine s_op (o_callf (vs := #[(.pointer (some ⟨db3, 0, none⟩)), (.int .i64 9)]) ca22 rfl (args2 rfl rfl) (dv_ar (d := (Dv.mk (Pw.mk false false (0 - (((50 : Nat) : Int) + 1)) (0 + (((50 : Nat) : Int) + 1))) (List.replicate 50 blankS) [])) ((hH15.front 2 rfl).front 2 rfl).all2 hd13 9) ?_)
  rintro _ w21 ⟨rfl, hd18, hX19⟩
  refine ⟨_, rfl, ?_⟩
  have hH20 : Has E w21 [sg12, [Hp.one pb4 (.cells #[(.bool ((Dv.mk (Pw.mk false false (0 - (((50 : Nat) : Int) + 1)) (0 + (((50 : Nat) : Int) + 1))) (List.replicate 50 blankS) []).ar 9).p.off), (.bool ((Dv.mk (Pw.mk false false (0 - (((50 : Nat) : Int) + 1)) (0 + (((50 : Nat) : Int) + 1))) (List.replicate 50 blankS) []).ar 9).p.armed), (.int .i64 ((Dv.mk (Pw.mk false false (0 - (((50 : Nat) : Int) + 1)) (0 + (((50 : Nat) : Int) + 1))) (List.replicate 50 blankS) []).ar 9).p.left), (.int .i64 ((Dv.mk (Pw.mk false false (0 - (((50 : Nat) : Int) + 1)) (0 + (((50 : Nat) : Int) + 1))) (List.replicate 50 blankS) []).ar 9).p.uses)] 101 (0, 0))], [Hp.one tb11 (.cells #[(.pointer (some ⟨db3, 0, none⟩)), (.int .i64 4)] 98 (0, 0))], R] := hX19.of_all2
  have hH22 : Has E w21 [sg12, [Hp.one pb4 (.cells #[(.bool aw0.p.off), (.bool aw0.p.armed), (.int .i64 aw0.p.left), (.int .i64 aw0.p.uses)] 101 (0, 0))], [Hp.one tb11 (.cells #[(.pointer (some ⟨db3, 0, none⟩)), (.int .i64 4)] 98 (0, 0))], R] := hH20
  have hd23 : DevAt pb4 sg12 db3 aw0.la aw0.lo := hd18
  refine s_nil ?_
  refine t_norm (hK17 _ _ ?_)
  refine wp_seq_k fun K24 hK24 => ?_
  refine c_region ?_
  refine s_op (o_move (v := (.pointer (some ⟨tb11, 0, none⟩))) rfl ?_)
  refine s_op (o_sight (v := (.agg #[(.int .i64 2), (.int .i64 7), (.slice none 0 0)])) (fun _ => by kernel_rfl) ?_)
  refine s_op (o_buildSlice (ps := #[(0, (.agg #[(.int .i64 2), (.int .i64 7), (.slice none 0 0)]))]) (cells := #[(.int .i64 2), (.int .i64 7), (.slice none 0 0)]) Tryz.underlying31 ti36 (by decide) (parts1 rfl) (by kernel_rfl) hH22 fun b25 w26 hH27 => ?_)
  refine s_op (o_callf (vs := #[(.pointer (some ⟨tb11, 0, none⟩)), (.slice (some ⟨b25, 0, none⟩) 1 1)]) ca18 rfl (args2 rfl rfl) (tstoreL_c (d := aw0) (n := 4) (((hH27.front 3 rfl).front 3 rfl).front 3 rfl).all3 hd23 aw_few0 (by omega) rfl (by decide) (hg.mono (seg_sub 1 rfl)) (l := [((2, 7, (.slice none 0 0), []) : Pg)]) ((sl_litF (f := pgC) (l := [((2, 7, (.slice none 0 0), []) : Pg)]) pgC_len rfl rfl (by simp)).mono (seg_sub 0 rfl)) (fun a ha => by rw [List.mem_singleton.1 ha]; exact sl_nil 2) (by first | omega | simp)) ?_)
  rintro _ w32 ⟨sg28, rfl, hd29, hX30⟩
  refine ⟨_, rfl, ?_⟩
  have hH31 : Has E w32 [sg28, [Hp.one pb4 (.cells #[(.bool ((stL aw0 4 [((2, 7, (.slice none 0 0), []) : Pg)]).2).p.off), (.bool ((stL aw0 4 [((2, 7, (.slice none 0 0), []) : Pg)]).2).p.armed), (.int .i64 ((stL aw0 4 [((2, 7, (.slice none 0 0), []) : Pg)]).2).p.left), (.int .i64 ((stL aw0 4 [((2, 7, (.slice none 0 0), []) : Pg)]).2).p.uses)] 101 (0, 0))], [Hp.one tb11 (.cells #[(.pointer (some ⟨db3, 0, none⟩)), (.int .i64 4)] 98 (0, 0))], [Hp.one b25 (.cells #[(.int .i64 2), (.int .i64 7), (.slice none 0 0)] 36 (0, 0))], R] := hX30.of_all3
  have hH33 : Has E w32 [sg28, [Hp.one pb4 (.cells #[(.bool aw1.p.off), (.bool aw1.p.armed), (.int .i64 aw1.p.left), (.int .i64 aw1.p.uses)] 101 (0, 0))], [Hp.one tb11 (.cells #[(.pointer (some ⟨db3, 0, none⟩)), (.int .i64 4)] 98 (0, 0))], [Hp.one b25 (.cells #[(.int .i64 2), (.int .i64 7), (.slice none 0 0)] 36 (0, 0))], R] := hH31
  have hd34 : DevAt pb4 sg28 db3 aw1.la aw1.lo := hd29
  refine s_op (o_assign (v := (.int .i64 ((stL aw0 4 [awA]).1))) rfl ?_)
  refine s_nil ?_
  refine t_norm (hK24 _ _ ?_)
  refine wp_seq_k fun K35 hK35 => ?_
  refine c_region ?_
  refine s_op (o_move (v := (.pointer (some ⟨db3, 0, none⟩))) rfl ?_)
  refine s_op (o_buildSlice (ps := #[(0, (.int .i64 14))]) (cells := #[(.int .i64 14)]) Tryz.underlying40 ti3 (by decide) (parts1 rfl) (by kernel_rfl) hH33 fun b36 w37 hH38 => ?_)
  refine s_op (o_callf (vs := #[(.pointer (some ⟨db3, 0, none⟩)), (.slice (some ⟨b36, 0, none⟩) 1 1)]) ca23 rfl (args2 rfl rfl) (dv_cr (d := aw1) ((hH38.front 2 rfl).front 2 rfl).all2 hd34 aw_l1 (keep := [14]) ((sl_lit (f := iV) (l := [14]) rfl rfl (by simp)).mono (seg_sub 0 rfl))) ?_)
  rintro _ w43 ⟨sg39, rfl, hd40, hX41⟩
  refine ⟨_, rfl, ?_⟩
  have hH42 : Has E w43 [sg39, [Hp.one pb4 (.cells #[(.bool (aw1.cr [14]).p.off), (.bool (aw1.cr [14]).p.armed), (.int .i64 (aw1.cr [14]).p.left), (.int .i64 (aw1.cr [14]).p.uses)] 101 (0, 0))], [Hp.one b36 (.cells #[(.int .i64 14)] 3 (0, 0))], [Hp.one tb11 (.cells #[(.pointer (some ⟨db3, 0, none⟩)), (.int .i64 4)] 98 (0, 0))], [Hp.one b25 (.cells #[(.int .i64 2), (.int .i64 7), (.slice none 0 0)] 36 (0, 0))], R] := hX41.of_all2
  have hH44 : Has E w43 [sg39, [Hp.one pb4 (.cells #[(.bool aw2.p.off), (.bool aw2.p.armed), (.int .i64 aw2.p.left), (.int .i64 aw2.p.uses)] 101 (0, 0))], [Hp.one b36 (.cells #[(.int .i64 14)] 3 (0, 0))], [Hp.one tb11 (.cells #[(.pointer (some ⟨db3, 0, none⟩)), (.int .i64 4)] 98 (0, 0))], [Hp.one b25 (.cells #[(.int .i64 2), (.int .i64 7), (.slice none 0 0)] 36 (0, 0))], R] := hH42
  have hd45 : DevAt pb4 sg39 db3 aw2.la aw2.lo := hd40
  refine s_nil ?_
  refine t_norm (hK35 _ _ ?_)
  refine wp_seq_k fun K46 hK46 => ?_
  refine c_region ?_
  refine s_op (o_move (v := (.pointer (some ⟨db3, 0, none⟩))) rfl ?_)
  refine s_op (o_callf (vs := #[(.pointer (some ⟨db3, 0, none⟩)), (.int .i64 4)]) ca21 rfl (args2 rfl rfl) (topen_ok (d := aw2) ((hH44.front 1 rfl).front 1 rfl).all2 hd45 (n := 4) aw_few2 (by omega) rfl (by rw [aw_n.1]; decide) ⟨by decide, by decide⟩ (by rw [aw_n.1]; decide) (hg.mono (seg_sub 3 rfl)) aw_64 rfl aw_g) ?_)
  rintro _ w52 ⟨tb49, sg47, rfl, hd48, hX50⟩
  refine ⟨_, rfl, ?_⟩
  have hH51 : Has E w52 [[Hp.one tb49 (.cells #[(.pointer (some ⟨db3, 0, none⟩)), (.int .i64 4)] 98 (0, 0))], sg47, [Hp.one pb4 (.cells #[(.bool ((mendR aw2 4).2).p.off), (.bool ((mendR aw2 4).2).p.armed), (.int .i64 ((mendR aw2 4).2).p.left), (.int .i64 ((mendR aw2 4).2).p.uses)] 101 (0, 0))], [Hp.one b36 (.cells #[(.int .i64 14)] 3 (0, 0))], [Hp.one tb11 (.cells #[(.pointer (some ⟨db3, 0, none⟩)), (.int .i64 4)] 98 (0, 0))], [Hp.one b25 (.cells #[(.int .i64 2), (.int .i64 7), (.slice none 0 0)] 36 (0, 0))], R] := hX50.of_all3
  refine s_op (o_move (v := (.tuple #[(.pointer (some ⟨tb49, 0, none⟩)), (.int .i64 (0 : Int))])) rfl ?_)
  refine s_op (o_extract (v := (.pointer (some ⟨tb49, 0, none⟩))) rfl rfl ?_)
  refine s_op (o_extract (v := (.int .i64 (0 : Int))) rfl rfl ?_)
  refine s_op (o_assign (v := (.pointer (some ⟨tb49, 0, none⟩))) rfl ?_)
  refine s_op (o_assign (v := (.int .i64 (0 : Int))) rfl ?_)
  refine s_nil ?_
  refine t_norm (hK46 _ _ ?_)
  refine wp_seq_k fun K53 hK53 => ?_
  refine c_region ?_
  refine s_op (o_move (v := (.pointer (some ⟨tb49, 0, none⟩))) rfl ?_)
  refine s_op (o_callf (vs := #[(.pointer (some ⟨tb49, 0, none⟩)), (.int .i64 2)]) ca24 rfl (args2 rfl rfl) (tpage_on (d := (mendR aw2 4).2) (n := 4) ((hH51.front 2 rfl).front 2 rfl).all3 hd48 aw_on.2 aw_on.1 aw_643 (by rw [aw_n.2]; decide) ⟨by decide, by decide⟩ (by rw [aw_n.2]; decide) (hg.mono (seg_sub 3 rfl)) (x := 2) ⟨by omega, by omega⟩) ?_)
  rintro _ w59 ⟨v54, hs55, rfl, ho56, hX57⟩
  refine ⟨_, rfl, ?_⟩
  have hH58 : Has E w59 [hs55, sg47, [Hp.one pb4 (.cells #[(.bool ((mendR aw2 4).2).p.off), (.bool ((mendR aw2 4).2).p.armed), (.int .i64 ((mendR aw2 4).2).p.left), (.int .i64 ((mendR aw2 4).2).p.uses)] 101 (0, 0))], [Hp.one tb49 (.cells #[(.pointer (some ⟨db3, 0, none⟩)), (.int .i64 4)] 98 (0, 0))], [Hp.one b36 (.cells #[(.int .i64 14)] 3 (0, 0))], [Hp.one tb11 (.cells #[(.pointer (some ⟨db3, 0, none⟩)), (.int .i64 4)] 98 (0, 0))], [Hp.one b25 (.cells #[(.int .i64 2), (.int .i64 7), (.slice none 0 0)] 36 (0, 0))], R] := hX57.of_all4
  refine s_op (o_move (v := (.tuple #[(.agg #[(.int .i64 ((pgOf (pgB ((mendR aw2 4).2).la (plc 2)) 2).1.1)), (.int .i64 ((pgOf (pgB ((mendR aw2 4).2).la (plc 2)) 2).1.2.1)), v54]), (.int .i64 ((pgOf (pgB ((mendR aw2 4).2).la (plc 2)) 2).2))])) rfl ?_)
  refine s_op (o_extract (v := (.agg #[(.int .i64 ((pgOf (pgB ((mendR aw2 4).2).la (plc 2)) 2).1.1)), (.int .i64 ((pgOf (pgB ((mendR aw2 4).2).la (plc 2)) 2).1.2.1)), v54])) rfl rfl ?_)
  refine s_op (o_extract (v := (.int .i64 ((pgOf (pgB ((mendR aw2 4).2).la (plc 2)) 2).2))) rfl rfl ?_)
  refine s_op (o_alloc (cs := #[(.int .i64 0), (.int .i64 0), (.slice none 0 0)]) ti36 rfl hH58 fun b60 w61 hH62 => ?_)
  refine s_eff (o_storeN (vs := [(.int .i64 ((pgOf (pgB ((mendR aw2 4).2).la (plc 2)) 2).1.1)), (.int .i64 ((pgOf (pgB ((mendR aw2 4).2).la (plc 2)) 2).1.2.1)), v54]) (c' := #[(.int .i64 ((pgOf (pgB ((mendR aw2 4).2).la (plc 2)) 2).1.1)), (.int .i64 ((pgOf (pgB ((mendR aw2 4).2).la (plc 2)) 2).1.2.1)), v54]) ti36 rfl rfl rfl rfl (by intro u hu; simp only [List.mem_cons, List.not_mem_nil, or_false] at hu; rcases hu with rfl | rfl | rfl <;> first | rfl | exact ho56.one) (by simp) (by kernel_rfl) (hH62.front 0 rfl) fun w63 hH64 => ?_)
  refine s_op (o_assign (v := (.int .i64 ((pgOf (pgB ((mendR aw2 4).2).la (plc 2)) 2).2))) rfl ?_)
  refine s_nil ?_
  refine t_norm (hK53 _ _ ?_)
  refine wp_seq_k fun K65 hK65 => ?_
  refine c_region ?_
  refine s_op (o_move (v := (.int .i64 (0 : Int))) rfl ?_)
  refine s_op (o_eql (a := (0 : Int)) (b := 0) rfl rfl ?_)
  refine s_op (o_move (v := (.bool (decide ((0 : Int) = 0)))) rfl ?_)
  by_cases h66 : (0 : Int) = 0
  · -- (0 : Int) = 0
    refine s_on 36 rfl (congrArg Value.bool (decide_eq_true h66)) (o_move (v := (.int .i64 ((stL aw0 4 [awA]).1))) rfl ?_)
    refine s_on 36 rfl (congrArg Value.bool (decide_eq_true h66)) (o_eql (a := (stL aw0 4 [awA]).1) (b := 6) rfl rfl ?_)
    refine s_op (o_pick_t (u := (.bool (decide ((stL aw0 4 [awA]).1 = 6)))) ((rfl : _ = _).trans (congrArg Value.bool (decide_eq_true h66))) rfl ?_)
    refine s_op (o_move (v := (.bool (decide ((stL aw0 4 [awA]).1 = 6)))) rfl ?_)
    by_cases h67 : (stL aw0 4 [awA]).1 = 6
    · -- (stL aw0 4 [awA]).1 = 6
      refine s_on 40 rfl (congrArg Value.bool (decide_eq_true h67)) (o_move (v := (.int .i64 (0 : Int))) rfl ?_)
      refine s_on 40 rfl (congrArg Value.bool (decide_eq_true h67)) (o_eql (a := (0 : Int)) (b := 0) rfl rfl ?_)
      refine s_op (o_pick_t (u := (.bool (decide ((0 : Int) = 0)))) ((rfl : _ = _).trans (congrArg Value.bool (decide_eq_true h67))) rfl ?_)
      refine s_op (o_move (v := (.bool (decide ((0 : Int) = 0)))) rfl ?_)
      refine s_on 44 rfl (congrArg Value.bool (decide_eq_true h66)) (o_move (v := (.int .i64 ((pgOf (pgB ((mendR aw2 4).2).la (plc 2)) 2).2))) rfl ?_)
      refine s_on 44 rfl (congrArg Value.bool (decide_eq_true h66)) (o_eql (a := (pgOf (pgB ((mendR aw2 4).2).la (plc 2)) 2).2) (b := 0) rfl rfl ?_)
      refine s_op (o_pick_t (u := (.bool (decide ((pgOf (pgB ((mendR aw2 4).2).la (plc 2)) 2).2 = 0)))) ((rfl : _ = _).trans (congrArg Value.bool (decide_eq_true h66))) rfl ?_)
      refine s_op (o_move (v := (.bool (decide ((pgOf (pgB ((mendR aw2 4).2).la (plc 2)) 2).2 = 0)))) rfl ?_)
      by_cases h68 : (pgOf (pgB ((mendR aw2 4).2).la (plc 2)) 2).2 = 0
      · -- (pgOf (pgB ((mendR aw2 4).2).la (plc 2)) 2).2 = 0
        refine s_on 48 rfl (congrArg Value.bool (decide_eq_true h68)) (o_fieldAddr (k := 1) (fun _ => by kernel_rfl) rfl ?_)
        refine s_on 48 rfl (congrArg Value.bool (decide_eq_true h68)) (o_load1 (v := (.int .i64 ((pgOf (pgB ((mendR aw2 4).2).la (plc 2)) 2).1.2.1))) Tryz.underlying3 rfl rfl hH64 (seg_sub 0 rfl) (CellsAt.one rfl) ?_)
        refine s_on 48 rfl (congrArg Value.bool (decide_eq_true h68)) (o_eql (a := (pgOf (pgB ((mendR aw2 4).2).la (plc 2)) 2).1.2.1) (b := 7) rfl rfl ?_)
        refine s_op (o_pick_t (u := (.bool (decide ((pgOf (pgB ((mendR aw2 4).2).la (plc 2)) 2).1.2.1 = 7)))) ((rfl : _ = _).trans (congrArg Value.bool (decide_eq_true h68))) rfl ?_)
        refine s_op (o_move (v := (.bool (decide ((pgOf (pgB ((mendR aw2 4).2).la (plc 2)) 2).1.2.1 = 7)))) rfl ?_)
        by_cases h69 : (pgOf (pgB ((mendR aw2 4).2).la (plc 2)) 2).1.2.1 = 7
        · -- (pgOf (pgB ((mendR aw2 4).2).la (plc 2)) 2).1.2.1 = 7
          refine s_on 53 rfl (congrArg Value.bool (decide_eq_true h69)) (o_move (v := (.pointer (some ⟨tb49, 0, none⟩))) rfl ?_)
          refine s_on 53 rfl (congrArg Value.bool (decide_eq_true h69)) (o_callf (vs := #[(.pointer (some ⟨tb49, 0, none⟩))]) ca28 rfl (args1 rfl) (tpages_c (db := db3) (n := 4) hH64.all ((CellsAt.one rfl).mono (seg_sub 4 rfl))) ?_)
          rintro _ w72 ⟨rfl, hX70⟩
          refine ⟨_, rfl, ?_⟩
          have hH71 := hX70.of_all
          refine s_on 53 rfl (congrArg Value.bool (decide_eq_true h69)) (o_eql (a := 4) (b := 4) rfl rfl ?_)
          refine s_op (o_pick_t (u := (.bool (decide ((4 : Int) = (4 : Int))))) ((rfl : _ = _).trans (congrArg Value.bool (decide_eq_true h69))) rfl ?_)
          refine s_op (o_assign (v := (.bool (decide ((4 : Int) = (4 : Int))))) rfl ?_)
          refine s_nil ?_
          refine t_norm (hK65 _ _ ?_)
          refine wp_ret ?_
          refine c_ret1 Tryz.results11  (v := (.bool (decide ((4 : Int) = (4 : Int))))) rfl ?_
          have hH73 : Has E w72 [R] := (hH71.front 8 rfl).first 1 rfl
          exact ⟨by first | rfl | (rw [decide_eq_true (by decide)]), hH73⟩
        · -- not: (pgOf (pgB ((mendR aw2 4).2).la (plc 2)) 2).1.2.1 = 7
          exact absurd (by rw [aw_p]) h69
      · -- not: (pgOf (pgB ((mendR aw2 4).2).la (plc 2)) 2).2 = 0
        exact absurd (by rw [aw_p]) h68
    · -- not: (stL aw0 4 [awA]).1 = 6
      exact absurd aw_f h67
  · -- not: (0 : Int) = 0
    exact absurd (by decide) h66
end Go.Q
namespace Go.Q
theorem full_settle {lo : List (Int × Bs)} {k : Nat} (hl : LoOk lo k) : ∀ (keep : List Int) (la : List Bs), Full64 la → Full64 (settleS lo la keep)
  | [], la, h => h
  | m :: keep, la, h => by
    have e : settleS lo la (m :: keep) = settleS lo (match getB lo m with | some s => la.set m.toNat s | none => la) keep := rfl
    rw [e]
    cases g : getB lo m with
    | none => exact full_settle hl keep la h
    | some x =>
      refine full_settle hl keep _ ?_
      intro s hs
      rcases List.mem_or_eq_of_mem_set hs with hs | rfl
      · exact h s hs
      · exact (hl _ (getB_some g)).2
theorem full_wrsy {d : Dv} {g : Grp} (hl : LoOk d.lo d.la.length) (h : Full64 d.la) : Full64 (wrsy d g).2.la := by
  unfold wrsy
  split
  · show Full64 (syncA _ _ _)
    unfold syncA
    split
    · exact full_settle (lo_wrs g d hl) _ _ (by rw [wrs_la]; exact h)
    · rw [wrs_la]; exact h
  · rw [wrs_la]; exact h
theorem full_runs : ∀ (gs : List Grp) (d : Dv), d.lo = [] → Full64 d.la → Full64 (runs d gs).2.la
  | [], _, _, h => h
  | g :: t, d, hl, h => by
    have e : runs d (g :: t) = if (wrsy d g).1 = 0 then runs (wrsy d g).2 t else wrsy d g := rfl
    have hg := full_wrsy (g := g) (by rw [hl]; exact LoOk.nil _) h
    rw [e]
    split
    · rename_i h0; exact full_runs t _ (wrsy_zero h0) hg
    · exact hg
theorem full_st1 {d : Dv} {n : Int} {a : Pg} (hl : d.lo = []) (h : Full64 d.la) : Full64 (st1 d n a).2.la := by
  unfold st1
  split
  · exact h
  · exact full_runs _ _ hl h
theorem full_mend {d : Dv} {n : Int} (hl : d.lo = []) (h : Full64 d.la) : Full64 (mendR d n).2.la := by
  unfold mendR
  split
  · exact h
  · split
    · exact h
    · split
      · exact h
      · split
        · exact full_runs _ _ hl h
        · exact h
/-- a power that nobody armed -/
theorem wrs_ne6 : ∀ (g : Grp) (d : Dv), d.p.off = false → d.p.armed = false → (wrs d g).1 ≠ 6 ∧ (wrs d g).2.p.off = false ∧ (wrs d g).2.p.armed = false
  | [], _, h1, h2 => ⟨(show (0 : Int) ≠ 6 by decide), h1, h2⟩
  | (n, s) :: t, d, h1, h2 => by
    have hb : useB d.p = true ∧ (useS d.p).off = false ∧ (useS d.p).armed = false := by
      unfold useB useS
      rw [h1, h2]
      exact ⟨rfl, rfl, rfl⟩
    have e : wrs d ((n, s) :: t) = if d.wrE n s = 0 then wrs (d.wr n s) t else (d.wrE n s, d.wr n s) := rfl
    rw [e]
    split
    · exact wrs_ne6 t (d.wr n s) hb.2.1 hb.2.2
    · refine ⟨?_, hb.2.1, hb.2.2⟩
      unfold Dv.wrE writeE
      rw [if_pos hb.1]
      split
      · show (0 : Int) ≠ 6; decide
      · show (1 : Int) ≠ 6; decide
theorem wrsy_ne6 {g : Grp} {d : Dv} (h1 : d.p.off = false) (h2 : d.p.armed = false) : (wrsy d g).1 ≠ 6 ∧ (wrsy d g).2.p.off = false ∧ (wrsy d g).2.p.armed = false := by
  obtain ⟨a1, a2, a3⟩ := wrs_ne6 g d h1 h2
  unfold wrsy
  split
  · have hb : useB (wrs d g).2.p = true ∧ (useS (wrs d g).2.p).off = false ∧ (useS (wrs d g).2.p).armed = false := by
      unfold useB useS
      rw [a2, a3]
      exact ⟨rfl, rfl, rfl⟩
    refine ⟨?_, hb.2.1, hb.2.2⟩
    unfold Dv.syE syncE
    rw [if_pos hb.1]
    show (0 : Int) ≠ 6; decide
  · exact ⟨a1, a2, a3⟩
theorem runs_ne6 : ∀ (gs : List Grp) (d : Dv), d.p.off = false → d.p.armed = false → (runs d gs).1 ≠ 6 ∧ (runs d gs).2.p.off = false ∧ (runs d gs).2.p.armed = false
  | [], _, h1, h2 => ⟨(show (0 : Int) ≠ 6 by decide), h1, h2⟩
  | g :: t, d, h1, h2 => by
    have e : runs d (g :: t) = if (wrsy d g).1 = 0 then runs (wrsy d g).2 t else wrsy d g := rfl
    obtain ⟨a1, a2, a3⟩ := wrsy_ne6 (g := g) h1 h2
    rw [e]
    split
    · exact runs_ne6 t _ a2 a3
    · exact ⟨a1, a2, a3⟩
theorem mend_ne6 {d : Dv} {n : Int} (h1 : d.p.off = false) (h2 : d.p.armed = false) : (mendR d n).1 ≠ 6 := by
  unfold mendR
  rw [if_neg (by rw [h1]; decide)]
  split
  · show (9 : Int) ≠ 6; decide
  · split
    · show (0 : Int) ≠ 6; decide
    · split
      · exact (runs_ne6 _ _ h1 h2).1
      · show (9 : Int) ≠ 6; decide
theorem st_spec2 {d : Dv} {n : Nat} {B : Nat → Bs} {a : Pg} (hlo : d.lo = []) (hT : Tw d.la n B) (ho : d.p.off = false) :
    ((st1 d n a).1 = 0 ∧ lpg a ≠ [] ∧ a.1 < (n : Int) ∧ Tw (st1 d n a).2.la n (updB B a.1.toNat (lpg a)) ∧ (st1 d n a).2.lo = [] ∧ (st1 d n a).2.p.off = false) ∨
    ((st1 d n a).1 = 6 ∧ lpg a ≠ [] ∧ a.1 < (n : Int) ∧ LoOk (st1 d n a).2.lo (st1 d n a).2.la.length ∧ ∀ keep, Pend (settleS (st1 d n a).2.lo (st1 d n a).2.la keep) n B a.1.toNat (lpg a)) ∨ st1 d n a = (1, d) := by
  by_cases hs : lpg a = []
  · exact .inr (.inr (if_pos (.inl hs)))
  · by_cases hn : a.1 < (n : Int)
    · rw [Dv.eta0 hlo]
      rcases st_spec (p := d.p) (a := a) hT ho hs hn with ⟨h1, h2, h3, h4⟩ | ⟨h1, h2, h3⟩
      · exact .inl ⟨h1, hs, hn, h2, h3, h4⟩
      · exact .inr (.inl ⟨h1, hs, hn, h2, h3⟩)
    · exact .inr (.inr (if_pos (.inr (by omega))))
/-- how TwiceCrashes stands: nothing under way, or one page -/
def TcS (d : Dv) (now ul : List Pg) (B : Nat → Bs) : Prop :=
  Told now B 6 ∧ LoOk d.lo d.la.length ∧ ((ul = [] ∧ d.lo = [] ∧ d.p.off = false ∧ Tw d.la 6 B) ∨ (∃ a, ul = [a] ∧ lpg a ≠ [] ∧ a.1 < 6 ∧ ∀ keep, Pend (settleS d.lo d.la keep) 6 B a.1.toNat (lpg a)))
theorem TcS.go {d : Dv} {now : List Pg} {B : Nat → Bs} (h : TcS d now [] B) : Told now B 6 ∧ d.lo = [] ∧ d.p.off = false ∧ Tw d.la 6 B := by
  obtain ⟨h1, _, ⟨_, h2, h3, h4⟩ | ⟨a, e, _⟩⟩ := h
  · exact ⟨h1, h2, h3, h4⟩
  · cases e
theorem lpg_no {a : Pg} (h : lpg a ≠ []) : 0 ≤ a.1 ∧ a.1 < 64 := page_no (lpg_right h)
theorem lpg_of {a : Pg} (h : lpg a ≠ []) : pgOf (lpg a) a.1 = (pgT a, 0) := pgOf_laid (lpg_right h)
theorem TcS.ok {d : Dv} {now : List Pg} {B : Nat → Bs} {a : Pg} (h : TcS d now [] B) (e : (st1 d 6 a).1 = 0) : (0 ≤ a.1 ∧ a.1 < 6) ∧ TcS (st1 d 6 a).2 (now.set a.1.toNat a) [] (updB B a.1.toNat (lpg a)) := by
  obtain ⟨h1, h2, h3, h4⟩ := h.go
  rcases st_spec2 (n := 6) (a := a) h2 h4 h3 with ⟨_, q2, q3, q4, q5, q6⟩ | ⟨q, _⟩ | q
  · have hn := lpg_no q2
    refine ⟨⟨hn.1, q3⟩, h1.set (by omega) (by rw [show ((a.1.toNat : Nat) : Int) = a.1 by omega]; exact lpg_of q2), ?_, .inl ⟨rfl, q5, q6, q4⟩⟩
    exact (show LoOk (st1 d 6 a).2.lo (st1 d 6 a).2.la.length from by rw [show (st1 d 6 a).2.lo = [] from q5]; exact LoOk.nil _)
  · exact absurd (q.symm.trans e) (by decide)
  · have e2 : (st1 d 6 a).1 = 1 := congrArg Prod.fst q
    rw [e2] at e; cases e
theorem TcS.off {d : Dv} {now : List Pg} {B : Nat → Bs} {a : Pg} (h : TcS d now [] B) (e : (st1 d 6 a).1 = 6) : TcS (st1 d 6 a).2 now [a] B := by
  obtain ⟨h1, h2, h3, h4⟩ := h.go
  rcases st_spec2 (n := 6) (a := a) h2 h4 h3 with ⟨q, _⟩ | ⟨_, q2, q3, q4, q5⟩ | q
  · exact absurd (q.symm.trans e) (by decide)
  · exact ⟨h1, q4, .inr ⟨a, rfl, q2, q3, q5⟩⟩
  · have e2 : (st1 d 6 a).1 = 1 := congrArg Prod.fst q
    rw [e2] at e; cases e
/-- behind the first crash, and behind the mending that another one may end -/
def TcP (la : List Bs) (ul : List Pg) (B : Nat → Bs) : Prop := (ul = [] ∧ Tw la 6 B) ∨ (∃ a, ul = [a] ∧ lpg a ≠ [] ∧ a.1 < 6 ∧ Pend la 6 B a.1.toNat (lpg a))
theorem TcS.crash {d : Dv} {now ul : List Pg} {B : Nat → Bs} (h : TcS d now ul B) (keep : List Int) : TcP (d.cr keep).la ul B := by
  obtain ⟨_, _, ⟨h1, h2, _, h4⟩ | ⟨a, h1, h2, h3, h4⟩⟩ := h
  · refine .inl ⟨h1, ?_⟩
    show Tw (settleS d.lo d.la keep) 6 B
    rw [h2, settle_none]; exact h4
  · exact .inr ⟨a, h1, h2, h3, h4 keep⟩
theorem TcP.open {d : Dv} {ul : List Pg} {B : Nat → Bs} (h : TcP d.la ul B) (hlo : d.lo = []) (ho : d.p.off = false) (ha : d.p.armed = false) :
    (mendR d 6).1 = 0 ∧ (mendR d 6).2.lo = [] ∧ (mendR d 6).2.p.off = false ∧ ((ul = [] ∧ Tw (mendR d 6).2.la 6 B) ∨ (∃ a, ul = [a] ∧ lpg a ≠ [] ∧ a.1 < 6 ∧ (Tw (mendR d 6).2.la 6 B ∨ Tw (mendR d 6).2.la 6 (updB B a.1.toNat (lpg a))))) := by
  have h6 := mend_ne6 (n := 6) ho ha
  rw [Dv.eta0 hlo] at h6 ⊢
  rcases h with ⟨h1, h2⟩ | ⟨a, h1, h2, h3, h4⟩
  · have e : mendR ⟨d.p, d.la, []⟩ 6 = (0, ⟨d.p, d.la, []⟩) := tw_mend (p := d.p) h2 ho
    rw [e]
    exact ⟨rfl, rfl, ho, .inl ⟨h1, h2⟩⟩
  · have hn := lpg_no h2
    have ea : ((a.1.toNat : Nat) : Int) = a.1 := by omega
    have el : laidP (a.1.toNat : Int) a.2.1 a.2.2.2 = lpg a := by rw [ea]; rfl
    have H := mend_spec (p := d.p) (n := 6) (B := B) (no := a.1.toNat) (gsn := a.2.1) (l := a.2.2.2) (by rw [el]; exact h4) (by rw [ea]; exact lpg_right h2) (by omega) (by decide) ho
    rw [el] at H
    rcases H with ⟨q1, q2, q3, q4⟩ | ⟨q1, _⟩
    · exact ⟨q1, q3, q4, .inr ⟨a, h1, h2, h3, q2⟩⟩
    · exact absurd q1 h6
end Go.Q
namespace Go.Q
/-- pages are as they are told, and nothing is under way -/
structure TsS (d : Dv) (n : Int) (now : List Pg) (B : Nat → Bs) : Prop where
  told : Told now B n.toNat
  tw : Tw d.la n.toNat B
  lo : d.lo = []
  off : d.p.off = false
  arm : d.p.armed = false
  full : Full64 d.la
theorem st1_ne6 {d : Dv} {n : Int} {a : Pg} (h1 : d.p.off = false) (h2 : d.p.armed = false) : (st1 d n a).1 ≠ 6 ∧ (st1 d n a).2.p.armed = false := by
  unfold st1
  split
  · exact ⟨(show (1 : Int) ≠ 6 by decide), h2⟩
  · have h := runs_ne6 (stG a.1 (lpg a)) d h1 h2
    exact ⟨h.1, h.2.2⟩
theorem lpg_ne {a : Pg} (h : pageR a.1 a.2.1 a.2.2.2 = true) : lpg a ≠ [] := fun e => by
  have h1 : (lpg a).length = 256 := laidP_len h
  rw [e] at h1; cases h1
theorem TsS.ok {d : Dv} {n : Int} {now : List Pg} {B : Nat → Bs} {a : Pg} (h0 : 0 ≤ n) (h : TsS d n now B) (hr : pageR a.1 a.2.1 a.2.2.2 = true) (hn : ¬ n ≤ a.1) :
    0 ≤ a.1 ∧ (st1 d n a).1 = 0 ∧ TsS (st1 d n a).2 n (now.set a.1.toNat a) (updB B a.1.toNat (lpg a)) := by
  obtain ⟨m, rfl⟩ : ∃ m : Nat, n = (m : Int) := ⟨n.toNat, (Int.toNat_of_nonneg h0).symm⟩
  have hp := page_no hr
  have h6 := st1_ne6 (n := (m : Int)) (a := a) h.off h.arm
  have ht : Told now B m := by have h_ := h.told; rwa [Int.toNat_natCast] at h_
  have hw : Tw d.la m B := by have h_ := h.tw; rwa [Int.toNat_natCast] at h_
  have hq := st_spec (p := d.p) (a := a) hw h.off (lpg_ne hr) (by omega)
  rw [← Dv.eta0 h.lo] at hq
  rcases hq with ⟨q1, q4, q5, q6⟩ | ⟨q, _⟩
  · refine ⟨hp.1, q1, ⟨?_, by rw [Int.toNat_natCast]; exact q4, q5, q6, h6.2, full_st1 h.lo h.full⟩⟩
    rw [Int.toNat_natCast]
    exact ht.set (by omega) (by rw [show ((a.1.toNat : Nat) : Int) = a.1 by omega]; exact lpg_of (lpg_ne hr))
  · exact absurd q h6.1
theorem TsS.no {d : Dv} {n : Int} {a : Pg} (hr : pageR a.1 a.2.1 a.2.2.2 = false ∨ n ≤ a.1) : st1 d n a = (1, d) := by
  refine if_pos (hr.imp (fun h => laidP_no h) id)
end Go.Q
namespace Go.Q
def bz (s : Bs) (m : Nat) : Bs := s ++ zer (m - s.length)
theorem bz_len {s : Bs} {m : Nat} (h : s.length ≤ m) : (bz s m).length = m := by unfold bz zer; rw [List.length_append, List.length_replicate]; omega
theorem fill_bz (s : Bs) : fillS s = bz s 64 := by unfold fillS bz zer blankS; rw [List.drop_replicate]
theorem putA_in {la : List Bs} {n : Int} {s : Bs} (h : s.length ≤ 64) (h0 : 0 ≤ n) (h1 : n < la.length) : putA la n s = la.set n.toNat (fillS s) := if_pos ⟨h, h0, h1⟩
theorem put_appl {la : List Bs} {x : Int} {b : Bs} (hb : b.length = 256) (h0 : 0 ≤ x) (hk : x + 4 ≤ la.length) :
    putA (putA (putA (putA la x (sgt b 0)) (x + 1) (sgt b 1)) (x + 2) (sgt b 2)) (x + 3) (sgt b 3) = appl (setT x b) la := by
  have l : ∀ i, i < 4 → (sgt b i).length ≤ 64 := fun i hi => Nat.le_of_eq (sgt_len hb hi)
  rw [putA_in (la := la) (l 0 (by decide)) h0 (by omega), putA_in (l 1 (by decide)) (by omega) (by rw [List.length_set]; omega), putA_in (l 2 (by decide)) (by omega) (by rw [List.length_set, List.length_set]; omega), putA_in (l 3 (by decide)) (by omega) (by rw [List.length_set, List.length_set, List.length_set]; omega)]
  rfl
theorem full_appl : ∀ (g : Grp) (la : List Bs), (∀ q ∈ g, q.2.length ≤ 64) → Full64 la → Full64 (appl g la)
  | [], _, _, h => h
  | q :: t, la, hq, h => by
    show Full64 (appl t (la.set q.1.toNat (fillS q.2)))
    refine full_appl t _ (fun z hz => hq z (List.mem_cons_of_mem _ hz)) ?_
    intro s hs
    rcases List.mem_or_eq_of_mem_set hs with hs | rfl
    · exact h s hs
    · exact fill_len (hq q List.mem_cons_self)
theorem full_setT {x : Int} {s : Bs} {la : List Bs} (hs : s.length = 256) (h : Full64 la) : Full64 (appl (setT x s) la) := full_appl _ _ (by
  intro q hq
  simp only [setT, List.mem_cons, List.not_mem_nil, or_false] at hq
  rcases hq with rfl | rfl | rfl | rfl
  · exact Nat.le_of_eq (sgt_len hs (by decide))
  · exact Nat.le_of_eq (sgt_len hs (by decide))
  · exact Nat.le_of_eq (sgt_len hs (by decide))
  · exact Nat.le_of_eq (sgt_len hs (by decide))) h
/-- what lies on the device that is opened -/
structure TO (la : List Bs) (N C H : Bs) (k : Int) : Prop where
  len : la.length = 17
  full : Full64 la
  note : sec la 0 = N
  copy : pgB la 1 = C
  home : pgB la (plc k) = H
theorem to_start {note C H : Bs} {k : Int} (hk : 0 ≤ k ∧ k ≤ 2) (hn : note.length ≤ 64) (hC : C.length = 256) (hH : H.length = 256) :
    TO (appl (setT (5 + 4 * k) H) (appl (setT 1 C) (putA (List.replicate 17 blankS) 0 note))) (bz note 64) C H k := by
  have l0 : (putA (List.replicate 17 blankS) 0 note).length = 17 := by rw [putA_len, List.length_replicate]
  have l1 : (appl (setT 1 C) (putA (List.replicate 17 blankS) 0 note)).length = 17 := by rw [appl_len, l0]
  have ep : plc k = 5 + 4 * k := by unfold plc; omega
  refine ⟨by rw [appl_len, l1], full_setT hH (full_setT hC (putA_64 (fun s hs => by rw [(List.mem_replicate.1 hs).2]; rfl))), ?_, ?_, ?_⟩
  · rw [sec_out hH (by omega) (by omega) (by decide) (by omega), sec_out hC (by decide) (by omega) (by decide) (by omega), putA_in hn (by decide) (by rw [List.length_replicate]; decide)]
    have e := sec_set (la := List.replicate 17 blankS) (n := 0) (s := fillS note) (m := 0) ⟨by decide, by rw [List.length_replicate]; decide⟩ (by decide)
    rw [e, if_pos rfl, fill_bz]
  · rw [pg_out hH (by omega) (by omega) (by decide) (by omega), pg_set hC (by decide) (by omega)]
  · rw [ep, pg_set hH (by omega) (by omega)]
def Good (N C : Bs) (x : UInt8) : Prop := ((1 ≤ (x.toNat : Int) ∧ (x.toNat : Int) ≤ 3) ∧ N.drop 1 = zer 63) ∧ (readP C).1 = true ∧ (readP C).2.1 = (x.toNat : Int) - 1
theorem to_A {la : List Bs} {N C H : Bs} {k : Int} {p : Pw} (h : TO la N C H k) (hN : N = zer 64) (ho : p.off = false) : mendR ⟨p, la, []⟩ 3 = (0, ⟨p, la, []⟩) := by
  have e : notedS (sec la 0) 3 = (-1, 0) := by rw [h.note]; exact if_pos hN
  have := mend_none (d := ⟨p, la, []⟩) (n := 3) ho (by rw [show notedS (sec (Dv.mk p la []).la 0) 3 = (-1, 0) from e]) (by rw [show notedS (sec (Dv.mk p la []).la 0) 3 = (-1, 0) from e]; show (-1 : Int) < 0; decide)
  rw [this, show notedS (sec (Dv.mk p la []).la 0) 3 = (-1, 0) from e]
theorem to_note {la : List Bs} {N C H : Bs} {k : Int} {x : UInt8} (h : TO la N C H k) (hl : N.length = 64) (hN : N ≠ zer 64) (hx : N[0]? = some x) :
    notedS (sec la 0) 3 = if (1 ≤ (x.toNat : Int) ∧ (x.toNat : Int) ≤ 3) ∧ N.drop 1 = zer 63 then ((x.toNat : Int) - 1, 0) else (0, 9) := by
  rw [h.note]
  have hz : N ≠ zer N.length := by rw [hl]; exact hN
  have hd : (N.drop 1).length = 63 := by rw [List.length_drop, hl]
  split
  · rename_i g
    exact nt_ok hx hl hz (by omega) (by omega) (by rw [hd]; exact g.2)
  · rename_i g
    refine nt_bad hx hl hz ?_
    by_cases g1 : (3 : Int) < (x.toNat : Int)
    · exact .inl g1
    · by_cases g2 : (x.toNat : Int) = 0
      · exact .inr (.inl g2)
      · exact .inr (.inr (fun e => g ⟨⟨by omega, by omega⟩, by rw [hd] at e; exact e⟩))
theorem to_B {la : List Bs} {N C H : Bs} {k : Int} {p : Pw} {x : UInt8} (h : TO la N C H k) (hl : N.length = 64) (hN : N ≠ zer 64) (hx : N[0]? = some x) (hb : ¬ Good N C x) (ho : p.off = false) : mendR ⟨p, la, []⟩ 3 = (9, ⟨p, la, []⟩) := by
  have e : notedS (sec (Dv.mk p la []).la 0) 3 = _ := to_note h hl hN hx
  by_cases g : (1 ≤ (x.toNat : Int) ∧ (x.toNat : Int) ≤ 3) ∧ N.drop 1 = zer 63
  · rw [if_pos g] at e
    refine mend_bad ho (by rw [e]) (by rw [e]; show ¬ ((x.toNat : Int) - 1 < 0); omega) ?_
    rw [e]
    show ¬ ((readP (pgB la 1)).1 = true ∧ _)
    rw [h.copy]
    exact fun q => hb ⟨g, q⟩
  · rw [if_neg g] at e
    have q := mend_e (d := ⟨p, la, []⟩) (n := 3) ho (by rw [e]; show (9 : Int) ≠ 0; decide)
    rw [q, e]
theorem to_D {la : List Bs} {N C H : Bs} {k : Int} {p : Pw} {x : UInt8} (h : TO la N C H k) (hl : N.length = 64) (hC : C.length = 256) (hN : N ≠ zer 64) (hx : N[0]? = some x) (hg : Good N C x) (ho : p.off = false) (ha : p.armed = false) (hk : 0 ≤ k ∧ k ≤ 2) :
    (mendR ⟨p, la, []⟩ 3).1 = 0 ∧ (mendR ⟨p, la, []⟩ 3).2.p.off = false ∧ TO (mendR ⟨p, la, []⟩ 3).2.la (zer 64) (pgB (mendR ⟨p, la, []⟩ 3).2.la 1) (if (readP C).2.1 = k then C else H) k ∧ (mendR ⟨p, la, []⟩ 3).2.lo = [] ∧ pgB (mendR ⟨p, la, []⟩ 3).2.la (plc (readP C).2.1) = C := by
  have e : notedS (sec (Dv.mk p la []).la 0) 3 = _ := to_note h hl hN hx
  rw [if_pos hg.1] at e
  obtain ⟨⟨⟨g1, g2⟩, g3⟩, g4, g5⟩ := hg
  have eq : mendR ⟨p, la, []⟩ 3 = runs ⟨p, la, []⟩ (mendG ((x.toNat : Int) - 1) C) := by
    have q := mend_go (d := ⟨p, la, []⟩) (n := 3) ho (by rw [e]) (by rw [e]; show ¬ ((x.toNat : Int) - 1 < 0); omega) (by rw [e]; show (readP (pgB la 1)).1 = true ∧ _; rw [h.copy]; exact ⟨g4, g5⟩)
    rw [q, e, show pgB (Dv.mk p la []).la 1 = C from h.copy]
  have hfull := full_mend (d := ⟨p, la, []⟩) (n := 3) rfl h.full
  have hmlen := mend_len (d := ⟨p, la, []⟩) (n := 3)
  obtain ⟨j, hj⟩ : ∃ j : Nat, (x.toNat : Int) - 1 = (j : Int) := ⟨((x.toNat : Int) - 1).toNat, by omega⟩
  rw [hj] at eq
  have h6 := runs_ne6 (mendG (j : Int) C) ⟨p, la, []⟩ ho ha
  have l17 := h.len
  rcases runs_spec (mendG (j : Int) C) p la (gok_mend (n := 3) (by omega) (by omega) hC) ho with ⟨q1, q2, q3, q4⟩ | ⟨q1, _⟩
  · have hT := mend_okT (la := la) (n := 3) (no := j) (s := C) (B := fun i => pgB la (plc i)) (by omega) (fun _ _ _ => rfl) hC (by omega)
    rw [eq] at hfull hmlen ⊢
    rw [g5, hj]
    rw [← q2] at hT
    refine ⟨q1, q4, ⟨by rw [hmlen]; exact l17, hfull, hT.note, rfl, ?_⟩, q3, ?_⟩
    · obtain ⟨i, rfl⟩ : ∃ i : Nat, k = (i : Int) := ⟨k.toNat, by omega⟩
      rw [hT.pg i (by omega)]
      unfold updB
      by_cases gi : (j : Int) = (i : Int)
      · rw [if_pos gi, if_pos (by omega)]
      · rw [if_neg gi, if_neg (by omega)]; exact h.home
    · rw [hT.pg j (by omega)]
      exact if_pos rfl
  · exact absurd q1 h6.1
theorem of_ne_read {b : Bs} (h : (readP b).1 = true) : b ≠ zer 256 := fun e => by
  rw [e] at h
  rw [read_zer] at h; cases h
theorem pgOf_no {b : Bs} {k : Int} (hb : b ≠ zer 256) (h : ¬ ((readP b).1 = true ∧ (readP b).2.1 = k)) : pgOf b k = ((0, 0, []), 9) := by unfold pgOf; rw [if_neg hb, if_neg h]
theorem pgOf_yes {b : Bs} {k : Int} (h : (readP b).1 = true ∧ (readP b).2.1 = k) : pgOf b k = ((readP b).2, 0) := by unfold pgOf; rw [if_neg (of_ne_read h.1), if_pos h]
theorem pgOf_zer {b : Bs} {k : Int} (h : b = zer 256) : pgOf b k = ((k, 0, []), 0) := if_pos h
theorem zer_take (m k : Nat) (h : k ≤ m) : (zer m).take k = zer k := by unfold zer; rw [List.take_replicate]; congr 1; omega
end Go.Q
namespace Go.Q
open Go.Proofs
set_option linter.unusedVariables false
set_option maxRecDepth 100000
attribute [local irreducible] wpList OK Code.wp
theorem put0_d {E w : World} {R sg : List Hp} {pb db : Nat} {p : Pw} {la : List Bs} (hH : Has E w [sg, [Hp.one pb (.cells #[(.bool p.off), (.bool p.armed), (.int .i64 p.left), (.int .i64 p.uses)] 101 (0, 0))], R]) (hd : DevAt pb sg db la []) (n : Int) (s : Bs) (hs : s.length ≤ 1000000000) :
    Calls Tryz.prog 29 #[.pointer (some ⟨db, 0, none⟩), .int .i64 n, (S s)] w fun e w' => ∃ sg', e = .returned (.int .i64 (putE la.length n s)) ∧ DevAt pb sg' db (putA la n s) [] ∧ Has E w' [sg', [Hp.one pb (.cells #[(.bool p.off), (.bool p.armed), (.int .i64 p.left), (.int .i64 p.uses)] 101 (0, 0))], R] := by
  have h_ := put_d hH hd n s hs
  simp only [putO_nil] at h_
  exact h_
set_option maxHeartbeats 4000000 in
theorem put12_c {E w : World} {R sg : List Hp} {pb db : Nat} {p : Pw} {la : List Bs} (hH : Has E w [sg, [Hp.one pb (.cells #[(.bool p.off), (.bool p.armed), (.int .i64 p.left), (.int .i64 p.uses)] 101 (0, 0))], R]) (hd : DevAt pb sg db la []) {x : Int} (hx : 0 ≤ x ∧ x + 4 ≤ la.length) (hla : la.length ≤ 4096) {s : Bs} (hs : s.length ≤ 256) :
    Calls Tryz.prog 30 #[(.pointer (some ⟨db, 0, none⟩)), (.int .i64 x), (S s)] w fun e w' => ∃ la' b sg', e = .returned (S b) ∧ (la' = appl (setT x (bz s 256)) la ∧ b = bz s 256) ∧ DevAt pb sg' db la' [] ∧ Has E w' [sg', [Hp.one pb (.cells #[(.bool p.off), (.bool p.armed), (.int .i64 p.left), (.int .i64 p.uses)] 101 (0, 0))], R] := by
  refine c_enter (args := [(.pointer (some ⟨db, 0, none⟩)), (.int .i64 x), (S s)]) Tryz.func30 rfl Tryz.ntmps30 (by simp) ?_
  refine wp_seq_k fun K1 hK1 => ?_
  refine c_region ?_
  refine s_op (o_assign (v := (S ([] : List UInt8))) rfl ?_)
  refine s_nil ?_
  refine t_norm (hK1 _ _ ?_)
  refine wp_seq_k fun K2 hK2 => ?_
  refine c_region ?_
  refine s_op (o_move (v := (S s)) rfl ?_)
  refine s_op (o_move (v := (S s)) rfl ?_)
  refine s_op (o_slen Tryz.underlying9 rfl ?_)
  refine s_op (o_sub (a := 256) (b := (s.length : Int)) rfl rfl (w64 (by omega) (by omega)) ?_)
  refine s_op (o_make Tryz.underlying54 ti5 rfl rfl (by omega) (by omega) (by omega) (by omega) hH fun v3 s4 w6 ho5 hH7 => ?_)
  have ho8 : Own 5 1 v3 (List.replicate (256 - (s.length : Int)).toNat (0 : UInt8)).length ((List.replicate (256 - (s.length : Int)).toNat (0 : UInt8)).map bV) s4 := by rw [List.length_replicate, List.map_replicate, ← made_rep]; exact ho5
  obtain ⟨p9, c10, rfl⟩ := (Own.sl ho5).form
  refine s_op (o_bstr Tryz.underlying54 Tryz.underlying5 Tryz.underlying9 rfl ho8.sl hH7 (seg_sub 0 rfl) ?_)
  refine s_op (o_sadd rfl rfl (by simp; omega) ?_)
  refine s_op (o_assign (v := (S (s ++ (List.replicate (256 - (s.length : Int)).toNat (0 : UInt8))))) rfl ?_)
  refine s_nil ?_
  refine t_norm (hK2 _ _ ?_)
  refine wp_seq_k fun K11 hK11 => ?_
  refine wp_seq_k fun K12 hK12 => ?_
  refine c_region ?_
  refine s_op (o_assign (v := (.int .i64 0)) rfl ?_)
  refine s_nil ?_
  refine t_norm (hK12 _ _ ?_)
  refine wp_block ?_
  refine u_loop 5 (u_round ?_)
  refine wp_seq_k fun K13 hK13 => ?_
  refine wp_seq_k fun K14 hK14 => ?_
  refine c_region ?_
  refine s_op (o_move (v := (.int .i64 0)) rfl ?_)
  refine s_op (o_lss (a := 0) (b := 4) rfl rfl ?_)
  refine s_nil ?_
  refine t_norm (hK14 _ _ ?_)
  refine c_true rfl rfl ?_
  refine wp_skip ?_
  refine t_norm (hK13 _ _ ?_)
  refine wp_seq_k fun K15 hK15 => ?_
  refine wp_block ?_
  refine c_region ?_
  refine s_op (o_move (v := (.pointer (some ⟨db, 0, none⟩))) rfl ?_)
  refine s_op (o_move (v := (.int .i64 x)) rfl ?_)
  refine s_op (o_move (v := (.int .i64 0)) rfl ?_)
  refine s_op (o_add (a := x) (b := 0) (c := x) rfl rfl (by rw [Int.add_zero]; exact w64 (by omega) (by omega)) ?_)
  refine s_op (o_move (v := (S (s ++ (List.replicate (256 - (s.length : Int)).toNat (0 : UInt8))))) rfl ?_)
  refine s_op (o_move (v := (.int .i64 0)) rfl ?_)
  refine s_op (o_mul (a := 64) (b := 0) (c := 0) rfl rfl (by decide) ?_)
  refine s_op (o_move (v := (.int .i64 0)) rfl ?_)
  refine s_op (o_mul (a := 64) (b := 0) (c := 0) rfl rfl (by decide) ?_)
  refine s_op (o_add (a := 0) (b := 64) (c := 64) rfl rfl (by decide) ?_)
  refine s_op (o_ssl Tryz.underlying9 rfl rfl rfl (by omega) (by omega) (by simp only [List.length_append, List.length_replicate]; omega) ?_)
  refine s_op (o_callf (vs := #[(.pointer (some ⟨db, 0, none⟩)), (.int .i64 x), (S (((s ++ (List.replicate (256 - (s.length : Int)).toNat (0 : UInt8))).take 64).drop 0))]) ca29 rfl (args3 rfl rfl rfl) (put0_d (p := p) (la := la) ((hH7.front 2 rfl).front 2 rfl).all2 hd x (((s ++ (List.replicate (256 - (s.length : Int)).toNat (0 : UInt8))).take 64).drop 0) (by simp only [List.length_drop, List.length_take]; omega)) ?_)
  rintro _ w20 ⟨sg16, rfl, hd17, hX18⟩
  refine ⟨_, rfl, ?_⟩
  have hH19 : Has E w20 [sg16, [Hp.one pb (.cells #[(.bool p.off), (.bool p.armed), (.int .i64 p.left), (.int .i64 p.uses)] 101 (0, 0))], s4, R] := hX18.of_all2
  refine s_nil ?_
  refine b_norm ?_
  refine t_norm (hK15 _ _ ?_)
  refine c_region ?_
  refine s_op (o_move (v := (.int .i64 0)) rfl ?_)
  refine s_op (o_add (a := 0) (b := 1) (c := 1) rfl rfl (by decide) ?_)
  refine s_op (o_assign (v := (.int .i64 1)) rfl ?_)
  refine s_nil ?_
  refine t_norm (u_round ?_)
  refine wp_seq_k fun K21 hK21 => ?_
  refine wp_seq_k fun K22 hK22 => ?_
  refine c_region ?_
  refine s_op (o_move (v := (.int .i64 1)) rfl ?_)
  refine s_op (o_lss (a := 1) (b := 4) rfl rfl ?_)
  refine s_nil ?_
  refine t_norm (hK22 _ _ ?_)
  refine c_true rfl rfl ?_
  refine wp_skip ?_
  refine t_norm (hK21 _ _ ?_)
  refine wp_seq_k fun K23 hK23 => ?_
  refine wp_block ?_
  refine c_region ?_
  refine s_op (o_move (v := (.pointer (some ⟨db, 0, none⟩))) rfl ?_)
  refine s_op (o_move (v := (.int .i64 x)) rfl ?_)
  refine s_op (o_move (v := (.int .i64 1)) rfl ?_)
  refine s_op (o_add (a := x) (b := 1) rfl rfl (w64 (by omega) (by omega)) ?_)
  refine s_op (o_move (v := (S (s ++ (List.replicate (256 - (s.length : Int)).toNat (0 : UInt8))))) rfl ?_)
  refine s_op (o_move (v := (.int .i64 1)) rfl ?_)
  refine s_op (o_mul (a := 64) (b := 1) (c := 64) rfl rfl (by decide) ?_)
  refine s_op (o_move (v := (.int .i64 1)) rfl ?_)
  refine s_op (o_mul (a := 64) (b := 1) (c := 64) rfl rfl (by decide) ?_)
  refine s_op (o_add (a := 64) (b := 64) (c := 128) rfl rfl (by decide) ?_)
  refine s_op (o_ssl Tryz.underlying9 rfl rfl rfl (by omega) (by omega) (by simp only [List.length_append, List.length_replicate]; omega) ?_)
  refine s_op (o_callf (vs := #[(.pointer (some ⟨db, 0, none⟩)), (.int .i64 (x + 1)), (S (((s ++ (List.replicate (256 - (s.length : Int)).toNat (0 : UInt8))).take 128).drop 64))]) ca29 rfl (args3 rfl rfl rfl) (put0_d (p := p) (la := (putA la x (((s ++ (List.replicate (256 - (s.length : Int)).toNat (0 : UInt8))).take 64).drop 0))) ((hH19.front 1 rfl).front 1 rfl).all2 hd17 (x + 1) (((s ++ (List.replicate (256 - (s.length : Int)).toNat (0 : UInt8))).take 128).drop 64) (by simp only [List.length_drop, List.length_take]; omega)) ?_)
  rintro _ w28 ⟨sg24, rfl, hd25, hX26⟩
  refine ⟨_, rfl, ?_⟩
  have hH27 : Has E w28 [sg24, [Hp.one pb (.cells #[(.bool p.off), (.bool p.armed), (.int .i64 p.left), (.int .i64 p.uses)] 101 (0, 0))], s4, R] := hX26.of_all2
  refine s_nil ?_
  refine b_norm ?_
  refine t_norm (hK23 _ _ ?_)
  refine c_region ?_
  refine s_op (o_move (v := (.int .i64 1)) rfl ?_)
  refine s_op (o_add (a := 1) (b := 1) (c := 2) rfl rfl (by decide) ?_)
  refine s_op (o_assign (v := (.int .i64 2)) rfl ?_)
  refine s_nil ?_
  refine t_norm (u_round ?_)
  refine wp_seq_k fun K29 hK29 => ?_
  refine wp_seq_k fun K30 hK30 => ?_
  refine c_region ?_
  refine s_op (o_move (v := (.int .i64 2)) rfl ?_)
  refine s_op (o_lss (a := 2) (b := 4) rfl rfl ?_)
  refine s_nil ?_
  refine t_norm (hK30 _ _ ?_)
  refine c_true rfl rfl ?_
  refine wp_skip ?_
  refine t_norm (hK29 _ _ ?_)
  refine wp_seq_k fun K31 hK31 => ?_
  refine wp_block ?_
  refine c_region ?_
  refine s_op (o_move (v := (.pointer (some ⟨db, 0, none⟩))) rfl ?_)
  refine s_op (o_move (v := (.int .i64 x)) rfl ?_)
  refine s_op (o_move (v := (.int .i64 2)) rfl ?_)
  refine s_op (o_add (a := x) (b := 2) rfl rfl (w64 (by omega) (by omega)) ?_)
  refine s_op (o_move (v := (S (s ++ (List.replicate (256 - (s.length : Int)).toNat (0 : UInt8))))) rfl ?_)
  refine s_op (o_move (v := (.int .i64 2)) rfl ?_)
  refine s_op (o_mul (a := 64) (b := 2) (c := 128) rfl rfl (by decide) ?_)
  refine s_op (o_move (v := (.int .i64 2)) rfl ?_)
  refine s_op (o_mul (a := 64) (b := 2) (c := 128) rfl rfl (by decide) ?_)
  refine s_op (o_add (a := 128) (b := 64) (c := 192) rfl rfl (by decide) ?_)
  refine s_op (o_ssl Tryz.underlying9 rfl rfl rfl (by omega) (by omega) (by simp only [List.length_append, List.length_replicate]; omega) ?_)
  refine s_op (o_callf (vs := #[(.pointer (some ⟨db, 0, none⟩)), (.int .i64 (x + 2)), (S (((s ++ (List.replicate (256 - (s.length : Int)).toNat (0 : UInt8))).take 192).drop 128))]) ca29 rfl (args3 rfl rfl rfl) (put0_d (p := p) (la := (putA (putA la x (((s ++ (List.replicate (256 - (s.length : Int)).toNat (0 : UInt8))).take 64).drop 0)) (x + 1) (((s ++ (List.replicate (256 - (s.length : Int)).toNat (0 : UInt8))).take 128).drop 64))) ((hH27.front 1 rfl).front 1 rfl).all2 hd25 (x + 2) (((s ++ (List.replicate (256 - (s.length : Int)).toNat (0 : UInt8))).take 192).drop 128) (by simp only [List.length_drop, List.length_take]; omega)) ?_)
  rintro _ w36 ⟨sg32, rfl, hd33, hX34⟩
  refine ⟨_, rfl, ?_⟩
  have hH35 : Has E w36 [sg32, [Hp.one pb (.cells #[(.bool p.off), (.bool p.armed), (.int .i64 p.left), (.int .i64 p.uses)] 101 (0, 0))], s4, R] := hX34.of_all2
  refine s_nil ?_
  refine b_norm ?_
  refine t_norm (hK31 _ _ ?_)
  refine c_region ?_
  refine s_op (o_move (v := (.int .i64 2)) rfl ?_)
  refine s_op (o_add (a := 2) (b := 1) (c := 3) rfl rfl (by decide) ?_)
  refine s_op (o_assign (v := (.int .i64 3)) rfl ?_)
  refine s_nil ?_
  refine t_norm (u_round ?_)
  refine wp_seq_k fun K37 hK37 => ?_
  refine wp_seq_k fun K38 hK38 => ?_
  refine c_region ?_
  refine s_op (o_move (v := (.int .i64 3)) rfl ?_)
  refine s_op (o_lss (a := 3) (b := 4) rfl rfl ?_)
  refine s_nil ?_
  refine t_norm (hK38 _ _ ?_)
  refine c_true rfl rfl ?_
  refine wp_skip ?_
  refine t_norm (hK37 _ _ ?_)
  refine wp_seq_k fun K39 hK39 => ?_
  refine wp_block ?_
  refine c_region ?_
  refine s_op (o_move (v := (.pointer (some ⟨db, 0, none⟩))) rfl ?_)
  refine s_op (o_move (v := (.int .i64 x)) rfl ?_)
  refine s_op (o_move (v := (.int .i64 3)) rfl ?_)
  refine s_op (o_add (a := x) (b := 3) rfl rfl (w64 (by omega) (by omega)) ?_)
  refine s_op (o_move (v := (S (s ++ (List.replicate (256 - (s.length : Int)).toNat (0 : UInt8))))) rfl ?_)
  refine s_op (o_move (v := (.int .i64 3)) rfl ?_)
  refine s_op (o_mul (a := 64) (b := 3) (c := 192) rfl rfl (by decide) ?_)
  refine s_op (o_move (v := (.int .i64 3)) rfl ?_)
  refine s_op (o_mul (a := 64) (b := 3) (c := 192) rfl rfl (by decide) ?_)
  refine s_op (o_add (a := 192) (b := 64) (c := 256) rfl rfl (by decide) ?_)
  refine s_op (o_ssl Tryz.underlying9 rfl rfl rfl (by omega) (by omega) (by simp only [List.length_append, List.length_replicate]; omega) ?_)
  refine s_op (o_callf (vs := #[(.pointer (some ⟨db, 0, none⟩)), (.int .i64 (x + 3)), (S (((s ++ (List.replicate (256 - (s.length : Int)).toNat (0 : UInt8))).take 256).drop 192))]) ca29 rfl (args3 rfl rfl rfl) (put0_d (p := p) (la := (putA (putA (putA la x (((s ++ (List.replicate (256 - (s.length : Int)).toNat (0 : UInt8))).take 64).drop 0)) (x + 1) (((s ++ (List.replicate (256 - (s.length : Int)).toNat (0 : UInt8))).take 128).drop 64)) (x + 2) (((s ++ (List.replicate (256 - (s.length : Int)).toNat (0 : UInt8))).take 192).drop 128))) ((hH35.front 1 rfl).front 1 rfl).all2 hd33 (x + 3) (((s ++ (List.replicate (256 - (s.length : Int)).toNat (0 : UInt8))).take 256).drop 192) (by simp only [List.length_drop, List.length_take]; omega)) ?_)
  rintro _ w44 ⟨sg40, rfl, hd41, hX42⟩
  refine ⟨_, rfl, ?_⟩
  have hH43 : Has E w44 [sg40, [Hp.one pb (.cells #[(.bool p.off), (.bool p.armed), (.int .i64 p.left), (.int .i64 p.uses)] 101 (0, 0))], s4, R] := hX42.of_all2
  refine s_nil ?_
  refine b_norm ?_
  refine t_norm (hK39 _ _ ?_)
  refine c_region ?_
  refine s_op (o_move (v := (.int .i64 3)) rfl ?_)
  refine s_op (o_add (a := 3) (b := 1) (c := 4) rfl rfl (by decide) ?_)
  refine s_op (o_assign (v := (.int .i64 4)) rfl ?_)
  refine s_nil ?_
  refine t_norm (u_round ?_)
  refine wp_seq_k fun K45 hK45 => ?_
  refine wp_seq_k fun K46 hK46 => ?_
  refine c_region ?_
  refine s_op (o_move (v := (.int .i64 4)) rfl ?_)
  refine s_op (o_lss (a := 4) (b := 4) rfl rfl ?_)
  refine s_nil ?_
  refine t_norm (hK46 _ _ ?_)
  refine c_false rfl rfl ?_
  refine wp_exit ?_
  refine t_exit (t_exit (x_in (?_)))
  refine t_norm (hK11 _ _ ?_)
  refine wp_seq_k fun K47 hK47 => ?_
  refine c_region ?_
  refine s_op (o_move (v := (S (s ++ (List.replicate (256 - (s.length : Int)).toNat (0 : UInt8))))) rfl ?_)
  refine s_op (o_assign (v := (S (s ++ (List.replicate (256 - (s.length : Int)).toNat (0 : UInt8))))) rfl ?_)
  refine s_nil ?_
  refine t_norm (hK47 _ _ ?_)
  refine wp_ret ?_
  refine c_ret1 Tryz.results30  (v := (S (s ++ (List.replicate (256 - (s.length : Int)).toNat (0 : UInt8))))) rfl ?_
  have hH48 : Has E w44 [sg40, [Hp.one pb (.cells #[(.bool p.off), (.bool p.armed), (.int .i64 p.left), (.int .i64 p.uses)] 101 (0, 0))], R] := (((hH43.front 3 rfl).front 2 rfl).front 2 rfl).first 3 rfl
  have hz_ : s ++ (List.replicate (256 - (s.length : Int)).toNat (0 : UInt8)) = (bz s 256) := by unfold bz zer; congr 2; omega
  refine ⟨_, _, _, rfl, ⟨?_, hz_⟩, hd41, hH48⟩
  rw [← put_appl (bz_len hs) (by omega) (by omega), ← hz_]
  rfl
end Go.Q
