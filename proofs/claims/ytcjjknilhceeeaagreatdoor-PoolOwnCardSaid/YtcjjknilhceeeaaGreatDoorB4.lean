/-
  Parts of a walk: what functions of the program compute, each told by a theorem (Qvp9, Qvp10, Qvt2, Qvt3, QTw4, QTw5, Qvt13, Qvt4, QY, QYS, QDevA, QAreaA, QvSh4, Qvt5, Qvt9, QTw6, QDir, QPool, Qvw0, QCut, Qvw1, Qvw2, Qvw3, Qvw5, QvSh5).
-/
import Derived.Test.YtcjjknilhceeeaaGreatDoorB3
import Derived.ChangeArms
import Derived.WideShapes
import Derived.DataElems
import Derived.SizedLaws
import Derived.Shelf.Strings.Trim
import Derived.Shelf.SlIterI.Nil
set_option linter.unusedVariables false
set_option linter.unusedSimpArgs false
set_option linter.unnecessarySimpa false
namespace Go.Q
open Go.Proofs
set_option linter.unusedVariables false
set_option maxRecDepth 100000
attribute [local irreducible] wpList OK Code.wp
set_option maxHeartbeats 4000000 in
theorem short_c {E w : World} {R : List Hp} {s : Bs}  (hH : Has E w [R]) (hl : s.length ≤ 255) :
    Calls Tryz.prog 122 #[(S s)] w fun e w' => e = .returned (S (shortB s)) ∧ Has E w' [R] := by
  refine c_enter (args := [(S s)]) Tryz.func122 rfl Tryz.ntmps122 (by simp) ?_
  refine wp_seq_k fun K1 hK1 => ?_
  refine c_region ?_
  refine s_op (o_assign (v := (S ([] : List UInt8))) rfl ?_)
  refine s_nil ?_
  refine t_norm (hK1 _ _ ?_)
  refine wp_seq_k fun K2 hK2 => ?_
  refine c_region ?_
  refine s_op (o_move (v := (S s)) rfl ?_)
  refine s_op (o_slen Tryz.underlying9 rfl ?_)
  refine s_op (o_buildSlice (ps := #[(0, (.int .i64 (s.length : Int)))]) (cells := #[(.int .i64 (s.length : Int))]) Tryz.underlying40 ti3 (by decide) (parts1 rfl) (by kernel_rfl) hH fun b3 w4 hH5 => ?_)
  refine s_op (o_callf (vs := #[(.int .i64 1), (.slice (some ⟨b3, 0, none⟩) 1 1)]) ca121 rfl (args2 rfl rfl) (put_c hH5.all 1 (l := [(s.length : Int)]) ((sl_lit (f := iV) (l := [(s.length : Int)]) rfl rfl (by simp)).mono (seg_sub 0 rfl)) (by simp)) ?_)
  rintro _ w8 ⟨rfl, hX6⟩
  refine ⟨_, rfl, ?_⟩
  have hH7 := hX6.of_all
  refine s_op (o_move (v := (S s)) rfl ?_)
  refine s_op (o_sadd rfl rfl (by rw [put1 (by omega), beFrom_length]; omega) ?_)
  refine s_op (o_assign (v := (S ((putS 1 [(s.length : Int)]) ++ s))) rfl ?_)
  refine s_nil ?_
  refine t_norm (hK2 _ _ ?_)
  refine wp_ret ?_
  refine c_ret1 Tryz.results122  (v := (S ((putS 1 [(s.length : Int)]) ++ s))) rfl ?_
  have q9 : (shortB s) = (putS 1 [(s.length : Int)]) ++ s := by unfold shortB; rw [put1 (by omega)]
  have hH10 : Has E w8 [R] := (hH7.front 1 rfl).first 1 rfl
  exact ⟨by rw [q9], hH10⟩
set_option maxHeartbeats 4000000 in
theorem plaid_c {E w : World} {R : List Hp} {no : Int} {gsn : Int} {v_l : Value} {l : List Cel}  (hH : Has E w [R]) (h_l : Sl R 2 v_l l.length (l.flatMap ceC)) (hg : CellsAt R 1 0 nibV) :
    Calls Tryz.prog 96 #[(.agg #[(.int .i64 no), (.int .i64 gsn), v_l])] w fun e w' => e = .returned (S (laidP no gsn l)) ∧ Has E w' [R] := by
  have hn_ := h_l.le
  refine c_enter (args := [(.agg #[(.int .i64 no), (.int .i64 gsn), v_l])]) Tryz.func96 rfl Tryz.ntmps96 (by simp) ?_
  refine wp_seq_k fun K1 hK1 => ?_
  refine c_region ?_
  refine s_op (o_box (cs := #[(.int .i64 no), (.int .i64 gsn), v_l]) rfl rfl hH fun b2 w3 hH4 => ?_)
  refine s_op (o_assign (v := (S ([] : List UInt8))) rfl ?_)
  refine s_nil ?_
  refine t_norm (hK1 _ _ ?_)
  refine wp_seq_k fun K5 hK5 => ?_
  refine wp_seq_k fun K6 hK6 => ?_
  refine c_region ?_
  refine s_op (o_loadN (cs := [(.int .i64 no), (.int .i64 gsn), v_l]) Tryz.underlying36 rfl ti36 rfl hH4 (seg_sub 0 rfl) (CellsAt.one rfl) ?_)
  refine s_op (o_callf (vs := #[(.agg #[(.int .i64 no), (.int .i64 gsn), v_l])]) ca78 rfl (args1 rfl) (pright_c (no := no) (gsn := gsn) (l := l) hH4.all (h_l.mono (seg_sub 1 rfl))) ?_)
  rintro _ w9 ⟨rfl, hX7⟩
  refine ⟨_, rfl, ?_⟩
  have hH8 := hX7.of_all
  refine s_op (o_not rfl ?_)
  refine s_nil ?_
  refine t_norm (hK6 _ _ ?_)
  refine c_condb rfl (fun h10 => ?_) (fun h10 => ?_)
  · -- !(pageR no gsn l)
    have h10_n : (pageR no gsn l) = false := by simpa using h10
    refine wp_seq_k fun K11 hK11 => ?_
    refine c_region ?_
    refine s_op (o_assign (v := (S ([] : List UInt8))) rfl ?_)
    refine s_nil ?_
    refine t_norm (hK11 _ _ ?_)
    refine wp_ret ?_
    refine t_ret (c_ret1 Tryz.results96  (v := (S ([] : List UInt8))) rfl ?_)
    have hE_ := laidP_no (no := no) (gsn := gsn) (l := l) (by first | (simpa using h10) | (simpa using h10_n))
    have q12 : (laidP no gsn l) = ([] : List UInt8) := by exact hE_
    have hH13 : Has E w9 [R] := (hH8.front 1 rfl).first 1 rfl
    exact ⟨by rw [q12], hH13⟩
  · -- not: !(pageR no gsn l)
    have h10_n : (pageR no gsn l) = true := by simpa using h10
    have hR_ : pageR no gsn l = true := by simpa using h10
    have hP_ := pageR_iff.1 hR_
    have hCe_ := cellsR_iff.1 hP_.2
    have hB_ := bodyB_len hR_
    have hu_ : putS 1 [no] ++ putS 8 [gsn] ++ putS 1 [((l.length : Nat) : Int)] = headB no gsn l.length := by rw [put1 (by omega), put8 (by omega), put1 (by omega)]; rfl
    refine wp_skip ?_
    refine t_norm (hK5 _ _ ?_)
    refine wp_seq_k fun K14 hK14 => ?_
    refine c_region ?_
    refine s_op (o_alloc (cs := #[(.pointer none), (.slice none 0 0)]) ti145 rfl hH8 fun b15 w16 hH17 => ?_)
    refine s_nil ?_
    refine t_norm (hK14 _ _ ?_)
    refine wp_seq_k fun K18 hK18 => ?_
    refine c_flow4 [[Hp.one b15 (.cells #[(.pointer none), (.slice none 0 0)] 145 (0, 0))], [Hp.one b2 (.cells #[(.int .i64 no), (.int .i64 gsn), v_l] 36 (0, 0))], R] (fun i_ => match i_ with | _ => []) (fun i_ v_ h_ m_ => match i_ with | 0 => v_ = (.pointer (some ⟨b2, 0, none⟩)) ∧ h_ = [] | 1 => v_ = (.int .i64 no) ∧ h_ = [] | 2 => ∃ (b19 : Nat), v_ = (.slice (some ⟨b19, 0, none⟩) 1 1) ∧ h_ = [Hp.one b19 (.cells #[(.int .i64 no)] 3 (0, 0))] | 3 => v_ = (S (putS 1 [no])) ∧ h_ = [] | 4 => v_ = (.pointer (some ⟨b2, 1, none⟩)) ∧ h_ = [] | 5 => v_ = (.int .i64 gsn) ∧ h_ = [] | 6 => ∃ (b25 : Nat), v_ = (.slice (some ⟨b25, 0, none⟩) 1 1) ∧ h_ = [Hp.one b25 (.cells #[(.int .i64 gsn)] 3 (0, 0))] | 7 => v_ = (S (putS 8 [gsn])) ∧ h_ = [] | 8 => v_ = (S ((putS 1 [no]) ++ (putS 8 [gsn]))) ∧ h_ = [] | 9 => v_ = (.pointer (some ⟨b2, 2, none⟩)) ∧ h_ = [] | 10 => v_ = v_l ∧ h_ = [] | 11 => v_ = (.int .i64 ((l.length : Nat) : Int)) ∧ h_ = [] | 12 => ∃ (b31 : Nat), v_ = (.slice (some ⟨b31, 0, none⟩) 1 1) ∧ h_ = [Hp.one b31 (.cells #[(.int .i64 ((l.length : Nat) : Int))] 3 (0, 0))] | 13 => v_ = (S (putS 1 [((l.length : Nat) : Int)])) ∧ h_ = [] | _ => True) mixed 14 (by kernel_rfl) (by decide) (by kernel_rfl) (flow_has (cs := []) hH17 rfl) ?_ ?_
    · intro i_ o_ him_ ho_ r' w' G hs_ ht
      match i_, ho_, him_ with
      | 0, ho_, him_ =>
        obtain rfl := Option.some.inj ho_
        have e1 : r' 1 = (.pointer (some ⟨b2, 0, none⟩)) := ht.was 1 (by kernel_rfl)
        have hG := ht.has.drop
        refine GOK.free rfl ?_
        refine o_fieldAddr (k := 0) (fun _ => by kernel_rfl) e1 ?_
        exact ⟨_, ⟨rfl, rfl⟩, hG⟩
      | 1, ho_, him_ =>
        obtain rfl := Option.some.inj ho_
        obtain ⟨e9, eh0⟩ := (ht.done 0 _ rfl rfl).1
        have hG := ht.has.drop
        refine GOK.free rfl ?_
        refine o_load1 (v := (.int .i64 no)) Tryz.underlying3 rfl e9 hG (ht.fr [Hp.one b2 (.cells #[(.int .i64 no), (.int .i64 gsn), v_l] 36 (0, 0))] (by simp)) (CellsAt.one rfl) ?_
        exact ⟨_, ⟨rfl, rfl⟩, hG⟩
      | 2, ho_, him_ =>
        obtain rfl := Option.some.inj ho_
        obtain ⟨e10, eh1⟩ := (ht.done 1 _ rfl rfl).1
        have hG := ht.has.drop
        refine GOK.free rfl ?_
        refine o_buildSlice (ps := #[(0, (.int .i64 no))]) (cells := #[(.int .i64 no)]) Tryz.underlying40 ti3 (by decide) (parts1 e10) (by kernel_rfl) hG fun b19 w20 hH21 => ?_
        exact ⟨_, ⟨b19, rfl, rfl⟩, hH21⟩
      | 3, ho_, him_ =>
        obtain rfl := Option.some.inj ho_
        obtain ⟨b19, e11, eh2⟩ := (ht.done 2 _ rfl rfl).1
        have hG := ht.has.drop
        refine GOK.free rfl ?_
        refine o_callf (vs := #[(.int .i64 1), (.slice (some ⟨b19, 0, none⟩) 1 1)]) ca121 rfl (args2 rfl e11) (put_c hG.all 1 (l := [no]) ((sl_lit (f := iV) (l := [no]) rfl rfl (by simp)).mono (eh2 ▸ (ht.done 2 _ rfl rfl).2)) (by simp)) ?_
        rintro _ w24 ⟨rfl, hX22⟩
        refine ⟨_, rfl, ?_⟩
        have hH23 := hX22.of_all
        exact ⟨_, ⟨rfl, rfl⟩, hH23⟩
      | 4, ho_, him_ =>
        obtain rfl := Option.some.inj ho_
        have e1 : r' 1 = (.pointer (some ⟨b2, 0, none⟩)) := ht.was 1 (by kernel_rfl)
        have hG := ht.has.drop
        refine GOK.free rfl ?_
        refine o_fieldAddr (k := 1) (fun _ => by kernel_rfl) e1 ?_
        exact ⟨_, ⟨rfl, rfl⟩, hG⟩
      | 5, ho_, him_ =>
        obtain rfl := Option.some.inj ho_
        obtain ⟨e13, eh4⟩ := (ht.done 4 _ rfl rfl).1
        have hG := ht.has.drop
        refine GOK.free rfl ?_
        refine o_load1 (v := (.int .i64 gsn)) Tryz.underlying3 rfl e13 hG (ht.fr [Hp.one b2 (.cells #[(.int .i64 no), (.int .i64 gsn), v_l] 36 (0, 0))] (by simp)) (CellsAt.one rfl) ?_
        exact ⟨_, ⟨rfl, rfl⟩, hG⟩
      | 6, ho_, him_ =>
        obtain rfl := Option.some.inj ho_
        obtain ⟨e14, eh5⟩ := (ht.done 5 _ rfl rfl).1
        have hG := ht.has.drop
        refine GOK.free rfl ?_
        refine o_buildSlice (ps := #[(0, (.int .i64 gsn))]) (cells := #[(.int .i64 gsn)]) Tryz.underlying40 ti3 (by decide) (parts1 e14) (by kernel_rfl) hG fun b25 w26 hH27 => ?_
        exact ⟨_, ⟨b25, rfl, rfl⟩, hH27⟩
      | 7, ho_, him_ =>
        obtain rfl := Option.some.inj ho_
        obtain ⟨b19, e11, eh2⟩ := (ht.done 2 _ rfl rfl).1
        obtain ⟨b25, e15, eh6⟩ := (ht.done 6 _ rfl rfl).1
        have hG := ht.has.drop
        refine GOK.free rfl ?_
        refine o_callf (vs := #[(.int .i64 8), (.slice (some ⟨b25, 0, none⟩) 1 1)]) ca121 rfl (args2 rfl e15) (put_c hG.all 8 (l := [gsn]) ((sl_lit (f := iV) (l := [gsn]) rfl rfl (by simp)).mono (eh6 ▸ (ht.done 6 _ rfl rfl).2)) (by simp)) ?_
        rintro _ w30 ⟨rfl, hX28⟩
        refine ⟨_, rfl, ?_⟩
        have hH29 := hX28.of_all
        exact ⟨_, ⟨rfl, rfl⟩, hH29⟩
      | 8, ho_, him_ =>
        obtain rfl := Option.some.inj ho_
        obtain ⟨b19, e11, eh2⟩ := (ht.done 2 _ rfl rfl).1
        obtain ⟨e12, eh3⟩ := (ht.done 3 _ rfl rfl).1
        obtain ⟨b25, e15, eh6⟩ := (ht.done 6 _ rfl rfl).1
        obtain ⟨e16, eh7⟩ := (ht.done 7 _ rfl rfl).1
        have hG := ht.has.drop
        refine GOK.free rfl ?_
        refine o_sadd e12 e16 (by first | (rw [put1 (by omega), put8 (by omega)]; simp only [beFrom_length, List.length_append]; omega) | (rw [put1 (by omega), put8 (by omega), put1 (by omega)]; simp only [beFrom_length, List.length_append]; omega) | (simp only [List.length_append, shortB_len]; omega)) ?_
        exact ⟨_, ⟨rfl, rfl⟩, hG⟩
      | 9, ho_, him_ =>
        obtain rfl := Option.some.inj ho_
        have e1 : r' 1 = (.pointer (some ⟨b2, 0, none⟩)) := ht.was 1 (by kernel_rfl)
        have hG := ht.has.drop
        refine GOK.free rfl ?_
        refine o_fieldAddr (k := 2) (fun _ => by kernel_rfl) e1 ?_
        exact ⟨_, ⟨rfl, rfl⟩, hG⟩
      | 10, ho_, him_ =>
        obtain rfl := Option.some.inj ho_
        obtain ⟨e18, eh9⟩ := (ht.done 9 _ rfl rfl).1
        have hG := ht.has.drop
        refine GOK.free rfl ?_
        refine o_load1 (v := v_l) Tryz.underlying34 rfl e18 hG (ht.fr [Hp.one b2 (.cells #[(.int .i64 no), (.int .i64 gsn), v_l] 36 (0, 0))] (by simp)) (CellsAt.one rfl) ?_
        exact ⟨_, ⟨rfl, rfl⟩, hG⟩
      | 11, ho_, him_ =>
        obtain rfl := Option.some.inj ho_
        obtain ⟨e19, eh10⟩ := (ht.done 10 _ rfl rfl).1
        have hG := ht.has.drop
        refine GOK.free rfl ?_
        refine o_lenS Tryz.underlying34 e19 h_l ?_
        exact ⟨_, ⟨rfl, rfl⟩, hG⟩
      | 12, ho_, him_ =>
        obtain rfl := Option.some.inj ho_
        obtain ⟨e20, eh11⟩ := (ht.done 11 _ rfl rfl).1
        have hG := ht.has.drop
        refine GOK.free rfl ?_
        refine o_buildSlice (ps := #[(0, (.int .i64 ((l.length : Nat) : Int)))]) (cells := #[(.int .i64 ((l.length : Nat) : Int))]) Tryz.underlying40 ti3 (by decide) (parts1 e20) (by kernel_rfl) hG fun b31 w32 hH33 => ?_
        exact ⟨_, ⟨b31, rfl, rfl⟩, hH33⟩
      | 13, ho_, him_ =>
        obtain rfl := Option.some.inj ho_
        obtain ⟨b19, e11, eh2⟩ := (ht.done 2 _ rfl rfl).1
        obtain ⟨b25, e15, eh6⟩ := (ht.done 6 _ rfl rfl).1
        obtain ⟨b31, e21, eh12⟩ := (ht.done 12 _ rfl rfl).1
        have hG := ht.has.drop
        refine GOK.free rfl ?_
        refine o_callf (vs := #[(.int .i64 1), (.slice (some ⟨b31, 0, none⟩) 1 1)]) ca121 rfl (args2 rfl e21) (put_c hG.all 1 (l := [((l.length : Nat) : Int)]) ((sl_lit (f := iV) (l := [((l.length : Nat) : Int)]) rfl rfl (by simp)).mono (eh12 ▸ (ht.done 12 _ rfl rfl).2)) (by simp)) ?_
        rintro _ w36 ⟨rfl, hX34⟩
        refine ⟨_, rfl, ?_⟩
        have hH35 := hX34.of_all
        exact ⟨_, ⟨rfl, rfl⟩, hH35⟩
      | i_ + 14, ho_, him_ => exact absurd him_ (by omega)
    · intro vs37 hs38 w39 hT40 hC_ hH41
      obtain ⟨e0_, eh0_⟩ := hT40 0 _ (by decide) rfl
      obtain ⟨e1_, eh1_⟩ := hT40 1 _ (by decide) rfl
      obtain ⟨b19, e2_, eh2_⟩ := hT40 2 _ (by decide) rfl
      obtain ⟨e3_, eh3_⟩ := hT40 3 _ (by decide) rfl
      obtain ⟨e4_, eh4_⟩ := hT40 4 _ (by decide) rfl
      obtain ⟨e5_, eh5_⟩ := hT40 5 _ (by decide) rfl
      obtain ⟨b25, e6_, eh6_⟩ := hT40 6 _ (by decide) rfl
      obtain ⟨e7_, eh7_⟩ := hT40 7 _ (by decide) rfl
      obtain ⟨e8_, eh8_⟩ := hT40 8 _ (by decide) rfl
      obtain ⟨e9_, eh9_⟩ := hT40 9 _ (by decide) rfl
      obtain ⟨e10_, eh10_⟩ := hT40 10 _ (by decide) rfl
      obtain ⟨e11_, eh11_⟩ := hT40 11 _ (by decide) rfl
      obtain ⟨b31, e12_, eh12_⟩ := hT40 12 _ (by decide) rfl
      obtain ⟨e13_, eh13_⟩ := hT40 13 _ (by decide) rfl
      have hH42 : Has E w39 ([[Hp.one b15 (.cells #[(.pointer none), (.slice none 0 0)] 145 (0, 0))], [Hp.one b2 (.cells #[(.int .i64 no), (.int .i64 gsn), v_l] 36 (0, 0))], R] ++ [[Hp.one b19 (.cells #[(.int .i64 no)] 3 (0, 0))], [Hp.one b25 (.cells #[(.int .i64 gsn)] 3 (0, 0))], [Hp.one b31 (.cells #[(.int .i64 ((l.length : Nat) : Int))] 3 (0, 0))]]) := flow_back (cs := [[Hp.one b19 (.cells #[(.int .i64 no)] 3 (0, 0))], [Hp.one b25 (.cells #[(.int .i64 gsn)] 3 (0, 0))], [Hp.one b31 (.cells #[(.int .i64 ((l.length : Nat) : Int))] 3 (0, 0))]]) hH41 (by show (hs38 0 ++ (hs38 1 ++ (hs38 2 ++ (hs38 3 ++ (hs38 4 ++ (hs38 5 ++ (hs38 6 ++ (hs38 7 ++ (hs38 8 ++ (hs38 9 ++ (hs38 10 ++ (hs38 11 ++ (hs38 12 ++ (hs38 13 ++ (hs38 14 ++ (hs38 15 ++ [])))))))))))))))) = _; rw [eh0_, eh1_, eh2_, eh3_, eh4_, eh5_, eh6_, eh7_, eh8_, eh9_, eh10_, eh11_, eh12_, eh13_, hC_ 14 (by decide) (by decide), hC_ 15 (by decide) (by decide)]; rfl)
      generalize hr44 : puts vs37 _ 0 _ = r43
      have e45_0 : r43 0 = (.agg #[(.int .i64 no), (.int .i64 gsn), v_l]) := by rw [← hr44]; exact rfl
      have e45_1 : r43 1 = (.pointer (some ⟨b2, 0, none⟩)) := by rw [← hr44]; exact rfl
      have e45_2 : r43 2 = (S ([] : List UInt8)) := by rw [← hr44]; exact rfl
      have e45_3 : r43 3 = (.pointer (some ⟨b15, 0, none⟩)) := by rw [← hr44]; exact rfl
      have e45_8 : r43 8 = (.bool (!(pageR no gsn l))) := by rw [← hr44]; exact rfl
      have e45_17 : r43 17 = (S ((putS 1 [no]) ++ (putS 8 [gsn]))) := by rw [← hr44]; exact e8_
      have e45_22 : r43 22 = (S (putS 1 [((l.length : Nat) : Int)])) := by rw [← hr44]; exact e13_
      refine s_op (o_sadd e45_17 e45_22 (by first | (rw [put1 (by omega), put8 (by omega)]; simp only [beFrom_length, List.length_append]; omega) | (rw [put1 (by omega), put8 (by omega), put1 (by omega)]; simp only [beFrom_length, List.length_append]; omega) | (simp only [List.length_append, shortB_len]; omega)) ?_)
      refine s_op (o_callf (vs := #[(.pointer (some ⟨b15, 0, none⟩)), (S (((putS 1 [no]) ++ (putS 8 [gsn])) ++ (putS 1 [((l.length : Nat) : Int)])))]) ca103 rfl (args2 e45_3 rfl) (bws hH42.all1 (Bld.new b15) (((putS 1 [no]) ++ (putS 8 [gsn])) ++ (putS 1 [((l.length : Nat) : Int)])) (by first | (rw [hu_, headB_len]; simp; done) | (rw [hu_, headB_len]; simp only [List.length_nil]; omega) | (simp only [List.length_append, shortB_len]; omega))) ?_)
      rintro _ w50 ⟨sg46, rfl, hB47, hX48⟩
      refine ⟨_, rfl, ?_⟩
      have hH49 : Has E w50 [sg46, [Hp.one b2 (.cells #[(.int .i64 no), (.int .i64 gsn), v_l] 36 (0, 0))], R, [Hp.one b19 (.cells #[(.int .i64 no)] 3 (0, 0))], [Hp.one b25 (.cells #[(.int .i64 gsn)] 3 (0, 0))], [Hp.one b31 (.cells #[(.int .i64 ((l.length : Nat) : Int))] 3 (0, 0))]] := hX48.of_all1
      refine s_nil ?_
      refine t_norm (hK18 _ _ ?_)
      refine wp_seq_k fun K51 hK51 => ?_
      refine wp_seq_k fun K52 hK52 => ?_
      refine c_region ?_
      refine s_op (o_fieldAddr (k := 2) (fun _ => by kernel_rfl) e45_1 ?_)
      refine s_op (o_load1 (v := v_l) Tryz.underlying34 rfl rfl hH49 (seg_sub 1 rfl) (CellsAt.one rfl) ?_)
      refine s_op (o_lenS Tryz.underlying34 rfl h_l ?_)
      refine s_op (o_move (v := (.int .i64 0)) rfl ?_)
      refine s_nil ?_
      refine t_norm (hK52 _ _ ?_)
      refine wp_block ?_
      let I54 : Nat → (Nat → Value) → World → Prop := fun n__ r__ w__ => ∃ (k : Nat) (sgB : List Hp) (acc : Bs), n__ = l.length - k ∧ Has E w__ [sgB, [Hp.one b2 (.cells #[(.int .i64 no), (.int .i64 gsn), v_l] 36 (0, 0))], R, [Hp.one b19 (.cells #[(.int .i64 no)] 3 (0, 0))], [Hp.one b25 (.cells #[(.int .i64 gsn)] 3 (0, 0))], [Hp.one b31 (.cells #[(.int .i64 ((l.length : Nat) : Int))] 3 (0, 0))]] ∧ (k ≤ l.length) ∧ (Bld b15 acc sgB) ∧ (acc = headB no gsn l.length ++ (l.take k).flatMap cellB) ∧ (acc.length ≤ 10 + 26 * k) ∧ r__ 0 = (.agg #[(.int .i64 no), (.int .i64 gsn), v_l]) ∧ r__ 1 = (.pointer (some ⟨b2, 0, none⟩)) ∧ r__ 2 = (S ([] : List UInt8)) ∧ r__ 3 = (.pointer (some ⟨b15, 0, none⟩)) ∧ r__ 8 = (.bool (!(pageR no gsn l))) ∧ r__ 26 = v_l ∧ r__ 27 = (.int .i64 ((l.length : Nat) : Int)) ∧ r__ 28 = (.int .i64 (k : Int))
      refine c_loop I54 _ ⟨0, sg46, (([] : Bs) ++ (((putS 1 [no]) ++ (putS 8 [gsn])) ++ (putS 1 [((l.length : Nat) : Int)]))), rfl, hH49, Nat.zero_le _, hB47, (by rw [List.nil_append, hu_]; simp), (by rw [List.nil_append, hu_, headB_len]; omega), e45_0, e45_1, e45_2, e45_3, e45_8, rfl, rfl, rfl⟩ ?_
      rintro n_ r57 w55 ⟨k, sgB, acc, rfl, hH56, hk, hB, hacc, hal, e53_0, e53_1, e53_2, e53_3, e53_8, e53_26, e53_27, e53_28⟩
      refine wp_seq_k fun K58 hK58 => ?_
      refine c_region ?_
      refine s_op (o_lss (a := (k : Int)) (b := ((l.length : Nat) : Int)) e53_28 e53_27 ?_)
      refine s_nil ?_
      refine t_norm (hK58 _ _ ?_)
      refine wp_seq_k fun K59 hK59 => ?_
      refine c_cond rfl (fun h60 => ?_) (fun h60 => ?_)
      · -- (k : Int) < ((l.length : Nat) : Int)
        refine wp_skip ?_
        refine t_norm (hK59 _ _ ?_)
        refine wp_seq_k fun K61 hK61 => ?_
        refine wp_block ?_
        refine wp_seq_k fun K62 hK62 => ?_
        refine c_region ?_
        obtain ⟨x66, hx67⟩ : ∃ x_, l[((k : Int)).toNat]? = some x_ := get_some (by omega)
        refine s_op (o_indexF ceC_len Tryz.underlying34 ti70 e53_26 h_l rfl e53_28 (by omega) hx67 fun b63 o64 hc65 => ?_)
        have hcl_ := celOk_len (hCe_.1 _ (List.mem_of_getElem? hx67))
        refine s_op (o_loadN (cs := [(S x66.1), (S x66.2)]) Tryz.underlying70 rfl ti70 rfl hH56 (seg_sub 2 rfl) hc65 ?_)
        refine s_op (o_alloc (cs := #[(S ([] : List UInt8)), (S ([] : List UInt8))]) ti70 rfl hH56 fun b68 w69 hH70 => ?_)
        refine s_eff (o_storeN (vs := [(S x66.1), (S x66.2)]) (c' := #[(S x66.1), (S x66.2)]) ti70 rfl rfl rfl rfl (by intro u hu; simp only [List.mem_cons, List.not_mem_nil, or_false] at hu; rcases hu with rfl | rfl <;> first | rfl) (by simp) (by kernel_rfl) (hH70.front 0 rfl) fun w71 hH72 => ?_)
        refine s_nil ?_
        refine t_norm (hK62 _ _ ?_)
        refine Rest.region mixed (by kernel_rfl) ?_
        have hH73 : Has E { w71 with drawn := w71.drawn + 1 } [[Hp.one b68 (.cells #[(S x66.1), (S x66.2)] 70 (0, 0))], sgB, [Hp.one b2 (.cells #[(.int .i64 no), (.int .i64 gsn), v_l] 36 (0, 0))], R, [Hp.one b19 (.cells #[(.int .i64 no)] 3 (0, 0))], [Hp.one b25 (.cells #[(.int .i64 gsn)] 3 (0, 0))], [Hp.one b31 (.cells #[(.int .i64 ((l.length : Nat) : Int))] 3 (0, 0))]] := Has0.drew hH72 _
        refine Rest.phaseA (fun w_ => Has E w_ [[Hp.one b68 (.cells #[(S x66.1), (S x66.2)] 70 (0, 0))]]) 0 5 5 rfl (by decide) (by kernel_rfl) ?_
        refine a_op 0 rfl (by kernel_rfl) (fun w_ h_ => o_fieldAddr (k := 0) (fun _ => by kernel_rfl) rfl ⟨rfl, rfl⟩) ?_
        refine a_op 1 rfl (by kernel_rfl) (fun w_ h_ => o_load1 (v := (S x66.1)) Tryz.underlying9 rfl rfl h_ (seg_sub 0 rfl) (CellsAt.one rfl) ⟨rfl, rfl⟩) ?_
        refine a_op 3 rfl (by kernel_rfl) (fun w_ h_ => o_fieldAddr (k := 1) (fun _ => by kernel_rfl) rfl ⟨rfl, rfl⟩) ?_
        refine a_op 4 rfl (by kernel_rfl) (fun w_ h_ => o_load1 (v := (S x66.2)) Tryz.underlying9 rfl rfl h_ (seg_sub 0 rfl) (CellsAt.one rfl) ⟨rfl, rfl⟩) ?_
        have hH74 : Has E { w71 with drawn := w71.drawn + 1 } [[Hp.one b68 (.cells #[(S x66.1), (S x66.2)] 70 (0, 0))]] := hH73.first 1 rfl
        refine a_w 2 rfl (by kernel_rfl) hH74 (o_callf (vs := #[(S x66.1)]) ca122 rfl (args1 rfl) (short_c (s := x66.1) hH73.all (by first | omega | (simp only []; omega) | (simp; done) | (simp; omega))) ?_)
        rintro _ w77 ⟨rfl, hX75⟩
        refine ⟨_, rfl, ?_⟩
        have hH76 := hX75.of_all
        have hH78 : Has E w77 [[Hp.one b68 (.cells #[(S x66.1), (S x66.2)] 70 (0, 0))]] := hH76.first 1 rfl
        refine a_done (by kernel_rfl) hH78 ?_
        refine r_op 5 rfl (by kernel_rfl) (o_callf (vs := #[(S x66.2)]) ca122 rfl (args1 rfl) (short_c (s := x66.2) hH76.all (by first | omega | (simp only []; omega) | (simp; done) | (simp; omega))) ?_)
        rintro _ w81 ⟨rfl, hX79⟩
        refine ⟨_, rfl, ?_⟩
        have hH80 := hX79.of_all
        refine r_op 6 rfl (by kernel_rfl) (o_sadd rfl rfl (by first | (rw [put1 (by omega), put8 (by omega)]; simp only [beFrom_length, List.length_append]; omega) | (rw [put1 (by omega), put8 (by omega), put1 (by omega)]; simp only [beFrom_length, List.length_append]; omega) | (simp only [List.length_append, shortB_len]; omega)) ?_)
        refine r_op 7 rfl (by kernel_rfl) (o_callf (vs := #[(.pointer (some ⟨b15, 0, none⟩)), (S ((shortB x66.1) ++ (shortB x66.2)))]) ca103 rfl (args2 e53_3 rfl) (bws (hH80.front 1 rfl).all1 hB ((shortB x66.1) ++ (shortB x66.2)) (by first | (rw [hu_, headB_len]; simp; done) | (rw [hu_, headB_len]; simp only [List.length_nil]; omega) | (simp only [List.length_append, shortB_len]; omega))) ?_)
        rintro _ w86 ⟨sg82, rfl, hB83, hX84⟩
        refine ⟨_, rfl, ?_⟩
        have hH85 : Has E w86 [sg82, [Hp.one b68 (.cells #[(S x66.1), (S x66.2)] 70 (0, 0))], [Hp.one b2 (.cells #[(.int .i64 no), (.int .i64 gsn), v_l] 36 (0, 0))], R, [Hp.one b19 (.cells #[(.int .i64 no)] 3 (0, 0))], [Hp.one b25 (.cells #[(.int .i64 gsn)] 3 (0, 0))], [Hp.one b31 (.cells #[(.int .i64 ((l.length : Nat) : Int))] 3 (0, 0))]] := hX84.of_all1
        refine Rest.done (by kernel_rfl) ?_
        refine b_norm ?_
        refine t_norm (hK61 _ _ ?_)
        refine c_region ?_
        refine s_op (o_add (a := (k : Int)) (b := 1) e53_28 rfl (w64 (by omega) (by omega)) ?_)
        refine s_op (o_move (v := (.int .i64 ((k : Int) + 1))) rfl ?_)
        refine s_nil ?_
        have hH87 : Has E w86 [sg82, [Hp.one b2 (.cells #[(.int .i64 no), (.int .i64 gsn), v_l] 36 (0, 0))], R, [Hp.one b19 (.cells #[(.int .i64 no)] 3 (0, 0))], [Hp.one b25 (.cells #[(.int .i64 gsn)] 3 (0, 0))], [Hp.one b31 (.cells #[(.int .i64 ((l.length : Nat) : Int))] 3 (0, 0))]] := Has.pick hH85 [0, 1, 1, 1, 1, 1] (by kernel_rfl)
        refine t_norm ⟨l.length - (k + 1), _, rfl, ?_, ?_⟩
        · omega
        · exact ⟨(k + 1), sg82, (acc ++ ((shortB x66.1) ++ (shortB x66.2))), rfl, hH87, (by omega), (hB83), (by (have h_ := cell_prog hacc (show l[k]? = some _ from hx67)); first | exact h_ | (simpa [List.append_assoc] using h_)), (by (have h1_ := celOk_len (hCe_.1 _ (List.mem_of_getElem? hx67))); simp only [List.length_append, shortB_len]; omega), e53_0, e53_1, e53_2, e53_3, e53_8, e53_26, e53_27, rfl⟩
      · -- not: (k : Int) < ((l.length : Nat) : Int)
        refine wp_exit ?_
        refine t_exit (t_exit (x_in (?_)))
        refine t_norm (hK51 _ _ ?_)
        refine wp_seq_k fun K88 hK88 => ?_
        refine c_region ?_
        refine s_op (o_callf (vs := #[(.pointer (some ⟨b15, 0, none⟩))]) ca104 rfl (args1 e53_3) (bstrK hH56.all1 hB) ?_)
        rintro _ w94 ⟨a89, p90, c91, rfl, hX92⟩
        refine ⟨_, rfl, ?_⟩
        have hH93 : Has E w94 [[Hp.one b15 (.cells #[a89, (.slice p90 acc.length c91)] 145 (0, 0))], [Hp.one b2 (.cells #[(.int .i64 no), (.int .i64 gsn), v_l] 36 (0, 0))], R, [Hp.one b19 (.cells #[(.int .i64 no)] 3 (0, 0))], [Hp.one b25 (.cells #[(.int .i64 gsn)] 3 (0, 0))], [Hp.one b31 (.cells #[(.int .i64 ((l.length : Nat) : Int))] 3 (0, 0))]] := hX92.of_all1
        refine s_op (o_callf (vs := #[(.pointer (some ⟨b15, 0, none⟩))]) ca120 rfl (args1 e53_3) (blenb hH93.all1) ?_)
        rintro _ w97 ⟨rfl, hX95⟩
        refine ⟨_, rfl, ?_⟩
        have hH96 : Has E w97 [[Hp.one b15 (.cells #[a89, (.slice p90 acc.length c91)] 145 (0, 0))], [Hp.one b2 (.cells #[(.int .i64 no), (.int .i64 gsn), v_l] 36 (0, 0))], R, [Hp.one b19 (.cells #[(.int .i64 no)] 3 (0, 0))], [Hp.one b25 (.cells #[(.int .i64 gsn)] 3 (0, 0))], [Hp.one b31 (.cells #[(.int .i64 ((l.length : Nat) : Int))] 3 (0, 0))]] := hX95.of_all1
        refine s_op (o_sub (a := 252) (b := (acc.length : Int)) rfl rfl (w64 (by omega) (by omega)) ?_)
        obtain ⟨n98, hn98⟩ : ∃ n_ : Nat, 252 - (acc.length : Int) = (n_ : Int) := ⟨(252 - (acc.length : Int)).toNat, by omega⟩
        refine s_op (o_callf (vs := #[(S [0]), (.int .i64 (252 - (acc.length : Int)))]) ca95 rfl (args2 rfl rfl) ((by rw [hn98]; exact repeat_c hH96.all n98 (by omega))) ?_)
        rintro _ w101 ⟨rfl, hX99⟩
        refine ⟨_, rfl, ?_⟩
        have hH100 := hX99.of_all
        refine s_op (o_buildSlice (ps := #[(0, (S acc)), (1, (S (List.replicate n98 0)))]) (cells := #[(S acc), (S (List.replicate n98 0))]) Tryz.underlying102 ti9 (by decide) (parts2 rfl rfl) (by kernel_rfl) hH100 fun b102 w103 hH104 => ?_)
        refine s_op (o_callf (vs := #[(.slice (some ⟨b102, 0, none⟩) 2 2)]) ca123 rfl (args1 rfl) (seal_c hH104.all (hg.mono (seg_sub 3 rfl)) ((sl_lit (f := sV) (l := [acc, (List.replicate n98 0)]) rfl rfl (by simp)).mono (seg_sub 0 rfl)) (by simp) (by simp only [List.flatten_cons, List.flatten_nil, List.length_append, List.length_replicate, List.length_nil]; omega)) ?_)
        rintro _ w107 ⟨rfl, hX105⟩
        refine ⟨_, rfl, ?_⟩
        have hH106 := hX105.of_all
        refine s_op (o_assign (v := (S (sealS [acc, (List.replicate n98 0)].flatten))) rfl ?_)
        refine s_nil ?_
        refine t_norm (hK88 _ _ ?_)
        refine wp_ret ?_
        refine c_ret1 Tryz.results96  (v := (S (sealS [acc, (List.replicate n98 0)].flatten))) rfl ?_
        have e_ : k = l.length := by omega
        rw [e_, List.take_length] at hacc
        have hb_ : acc = bodyB no gsn l := hacc
        have hE_ : laidP no gsn l = sealS [acc, List.replicate n98 0].flatten := by unfold laidP; rw [if_pos hR_]; unfold fullB; rw [← hb_, show 252 - acc.length = n98 from by omega]; simp
        have q108 : (laidP no gsn l) = (sealS [acc, (List.replicate n98 0)].flatten) := by exact hE_
        have hH109 : Has E w107 [R] := (hH106.front 3 rfl).first 1 rfl
        exact ⟨by rw [q108], hH109⟩
set_option maxHeartbeats 4000000 in
theorem text_c {E w : World} {R : List Hp} {s : Bs}  (hH : Has E w [R]) (hs : s.length ≤ 1000000) :
    Calls Tryz.prog 107 #[(S s)] w fun e w' => e = .returned (.tuple #[(S ((textS s).1)), (S ((textS s).2.1)), (.bool ((textS s).2.2))]) ∧ Has E w' [R] := by
  have hto_ := take_one s
  refine c_enter (args := [(S s)]) Tryz.func107 rfl Tryz.ntmps107 (by simp) ?_
  refine wp_seq_k fun K1 hK1 => ?_
  refine c_region ?_
  refine s_op (o_assign (v := (S ([] : List UInt8))) rfl ?_)
  refine s_op (o_assign (v := (S ([] : List UInt8))) rfl ?_)
  refine s_op (o_assign (v := (.bool false)) rfl ?_)
  refine s_nil ?_
  refine t_norm (hK1 _ _ ?_)
  refine wp_seq_k fun K2 hK2 => ?_
  refine c_region ?_
  refine s_op (o_move (v := (S s)) rfl ?_)
  refine s_op (o_callf (vs := #[(S s), (.int .i64 1)]) ca106 rfl (args2 rfl rfl) (take_c hH.all 1 s (by omega)) ?_)
  rintro _ w5 ⟨rfl, hX3⟩
  refine ⟨_, rfl, ?_⟩
  have hH4 := hX3.of_all
  refine s_op (o_move (v := (.tuple #[(.int .i64 ((takeS s 1).1)), (S ((takeS s 1).2.1)), (.bool ((takeS s 1).2.2))])) rfl ?_)
  refine s_op (o_extract (v := (.int .i64 ((takeS s 1).1))) rfl rfl ?_)
  refine s_op (o_extract (v := (S ((takeS s 1).2.1))) rfl rfl ?_)
  refine s_op (o_extract (v := (.bool ((takeS s 1).2.2))) rfl rfl ?_)
  refine s_op (o_assign (v := (.int .i64 ((takeS s 1).1))) rfl ?_)
  refine s_op (o_assign (v := (S ((takeS s 1).2.1))) rfl ?_)
  refine s_op (o_assign (v := (.bool ((takeS s 1).2.2))) rfl ?_)
  refine s_nil ?_
  refine t_norm (hK2 _ _ ?_)
  refine wp_seq_k fun K6 hK6 => ?_
  refine wp_seq_k fun K7 hK7 => ?_
  refine c_region ?_
  refine s_op (o_move (v := (.bool ((takeS s 1).2.2))) rfl ?_)
  refine s_op (o_not rfl ?_)
  refine s_op (o_move (v := (.bool (!((takeS s 1).2.2)))) rfl ?_)
  rcases Bool.eq_false_or_eq_true (!((takeS s 1).2.2)) with h8 | h8
  · -- !((takeS s 1).2.2)
    have h8_n : ((takeS s 1).2.2) = false := by simpa using h8
    refine s_off (b' := true) 16 rfl (congrArg Value.bool h8) rfl ?_
    refine s_off (b' := true) 16 rfl (congrArg Value.bool h8) rfl ?_
    refine s_off (b' := true) 16 rfl (congrArg Value.bool h8) rfl ?_
    refine s_off (b' := true) 16 rfl (congrArg Value.bool h8) rfl ?_
    refine s_op (o_pick_t (u := (.bool true)) ((rfl : _ = _).trans (congrArg Value.bool h8)) rfl ?_)
    refine s_nil ?_
    refine t_norm (hK7 _ _ ?_)
    refine c_true rfl rfl ?_
    refine wp_seq_k fun K9 hK9 => ?_
    refine c_region ?_
    refine s_op (o_assign (v := (S ([] : List UInt8))) rfl ?_)
    refine s_op (o_assign (v := (S ([] : List UInt8))) rfl ?_)
    refine s_op (o_assign (v := (.bool false)) rfl ?_)
    refine s_nil ?_
    refine t_norm (hK9 _ _ ?_)
    refine wp_ret ?_
    refine t_ret (c_ret3 Tryz.results107  (v := (S ([] : List UInt8))) rfl (x := (S ([] : List UInt8))) rfl (y := (.bool false)) rfl ?_)
    have hE_ := text_no (s := s) (by first | exact .inl (by simpa using h8) | exact .inl (by simpa using h8_n) | exact .inr (by omega))
    have q10 : (textS s).1 = ([] : List UInt8) := by rw [hE_]
    have q11 : (textS s).2.1 = ([] : List UInt8) := by rw [hE_]
    have q12 : (textS s).2.2 = false := by rw [hE_]
    exact ⟨by rw [q10]; rw [q11]; rw [q12], hH4⟩
  · -- not: !((takeS s 1).2.2)
    have h8_n : ((takeS s 1).2.2) = true := by simpa using h8
    refine s_on 16 rfl (congrArg Value.bool h8) (o_move (v := (.int .i64 ((takeS s 1).1))) rfl ?_)
    refine s_on 16 rfl (congrArg Value.bool h8) (o_move (v := (S ((takeS s 1).2.1))) rfl ?_)
    refine s_on 16 rfl (congrArg Value.bool h8) (o_slen Tryz.underlying9 rfl ?_)
    refine s_on 16 rfl (congrArg Value.bool h8) (o_gtr (a := (takeS s 1).1) (b := (((takeS s 1).2.1).length : Int)) rfl rfl ?_)
    refine s_op (o_pick_f (u := (.bool (decide ((((takeS s 1).2.1).length : Int) < (takeS s 1).1)))) ((rfl : _ = _).trans (congrArg Value.bool h8)) rfl ?_)
    refine s_nil ?_
    refine t_norm (hK7 _ _ ?_)
    refine c_cond rfl (fun h13 => ?_) (fun h13 => ?_)
    · -- (((takeS s 1).2.1).length : Int) < (takeS s 1).1
      refine wp_seq_k fun K14 hK14 => ?_
      refine c_region ?_
      refine s_op (o_assign (v := (S ([] : List UInt8))) rfl ?_)
      refine s_op (o_assign (v := (S ([] : List UInt8))) rfl ?_)
      refine s_op (o_assign (v := (.bool false)) rfl ?_)
      refine s_nil ?_
      refine t_norm (hK14 _ _ ?_)
      refine wp_ret ?_
      refine t_ret (c_ret3 Tryz.results107  (v := (S ([] : List UInt8))) rfl (x := (S ([] : List UInt8))) rfl (y := (.bool false)) rfl ?_)
      have hE_ := text_no (s := s) (by first | exact .inl (by simpa using h8) | exact .inl (by simpa using h8_n) | exact .inl (by simpa using h13) | exact .inr (by omega))
      have q15 : (textS s).1 = ([] : List UInt8) := by rw [hE_]
      have q16 : (textS s).2.1 = ([] : List UInt8) := by rw [hE_]
      have q17 : (textS s).2.2 = false := by rw [hE_]
      exact ⟨by rw [q15]; rw [q16]; rw [q17], hH4⟩
    · -- not: (((takeS s 1).2.1).length : Int) < (takeS s 1).1
      refine wp_skip ?_
      refine t_norm (hK6 _ _ ?_)
      refine wp_seq_k fun K18 hK18 => ?_
      refine Rest.region mixed (by kernel_rfl) ?_
      have hH19 : Has E { w5 with drawn := w5.drawn + 1 } [R] := Has0.drew hH4 _
      refine Rest.phaseA (fun w_ => Has E w_ []) 0 7 7 rfl (by decide) (by kernel_rfl) ?_
      refine a_op 0 rfl (by kernel_rfl) (fun w_ h_ => o_move (v := (S ((takeS s 1).2.1))) rfl ⟨rfl, rfl⟩) ?_
      refine a_op 1 rfl (by kernel_rfl) (fun w_ h_ => o_move (v := (.int .i64 ((takeS s 1).1))) rfl ⟨rfl, rfl⟩) ?_
      refine a_op 2 rfl (by kernel_rfl) (fun w_ h_ => o_ssl_h Tryz.underlying9 rfl rfl (by omega) (by omega) ⟨rfl, rfl⟩) ?_
      refine a_op 3 rfl (by kernel_rfl) (fun w_ h_ => o_move (v := (S ((takeS s 1).2.1))) rfl ⟨rfl, rfl⟩) ?_
      refine a_op 4 rfl (by kernel_rfl) (fun w_ h_ => o_move (v := (.int .i64 ((takeS s 1).1))) rfl ⟨rfl, rfl⟩) ?_
      refine a_op 5 rfl (by kernel_rfl) (fun w_ h_ => o_ssl_l Tryz.underlying9 rfl rfl (by omega) (by omega) ⟨rfl, rfl⟩) ?_
      refine a_op 6 rfl (by kernel_rfl) (fun w_ h_ => o_assign (v := (S (((takeS s 1).2.1).take ((takeS s 1).1).toNat))) rfl ⟨rfl, rfl⟩) ?_
      have hH20 : Has E { w5 with drawn := w5.drawn + 1 } [] := hH19.first 0 rfl
      refine a_done (by kernel_rfl) hH20 ?_
      refine r_op 7 rfl (by kernel_rfl) (o_assign (v := (S (((takeS s 1).2.1).drop ((takeS s 1).1).toNat))) rfl ?_)
      refine r_op 8 rfl (by kernel_rfl) (o_assign (v := (.bool true)) rfl ?_)
      refine Rest.done (by kernel_rfl) ?_
      refine t_norm (hK18 _ _ ?_)
      refine wp_ret ?_
      refine c_ret3 Tryz.results107  (v := (S (((takeS s 1).2.1).take ((takeS s 1).1).toNat))) rfl (x := (S (((takeS s 1).2.1).drop ((takeS s 1).1).toNat))) rfl (y := (.bool true)) rfl ?_
      have hE_ := text_yes (s := s) (by first | (simpa using h8) | (simpa using h8_n) | (simpa using h13)) (by omega)
      have q21 : (textS s).1 = ((takeS s 1).2.1).take ((takeS s 1).1).toNat := by rw [hE_]
      have q22 : (textS s).2.1 = ((takeS s 1).2.1).drop ((takeS s 1).1).toNat := by rw [hE_]
      have q23 : (textS s).2.2 = true := by rw [hE_]
      exact ⟨by rw [q21]; rw [q22]; rw [q23], hH19⟩
end Go.Q
namespace Go.Q
open Go.Proofs
set_option linter.unusedVariables false
set_option maxRecDepth 100000
attribute [local irreducible] wpList OK Code.wp
set_option maxHeartbeats 4000000 in
theorem pread_c {E w : World} {R : List Hp} {s : Bs}  (hH : Has E w [R]) (hg : CellsAt R 1 0 nibV) :
    Calls Tryz.prog 66 #[(S s)] w fun e w' => ∃ (v1' : Value) (s2' : List Hp), e = .returned (.tuple #[(.agg #[(.int .i64 ((readP s).2.1)), (.int .i64 ((readP s).2.2.1)), v1']), (.bool ((readP s).1))]) ∧ (Own 70 2 v1' ((readP s).2.2.2).length (((readP s).2.2.2).flatMap ceC) s2') ∧ Has E w' [s2', R] := by
  have hr1_ := take_rest_le s 1
  have hr2_ := take_rest_le (takeS s 1).2.1 8
  have hr3_ := take_rest_le (takeS (takeS s 1).2.1 8).2.1 1
  have hto_ := take_one (takeS (takeS s 1).2.1 8).2.1
  have hto1_ := take_one s
  refine c_enter (args := [(S s)]) Tryz.func66 rfl Tryz.ntmps66 (by simp) ?_
  refine wp_seq_k fun K1 hK1 => ?_
  refine c_region ?_
  refine s_op (o_alloc (cs := #[(.int .i64 0), (.int .i64 0), (.slice none 0 0)]) ti36 rfl hH fun b2 w3 hH4 => ?_)
  refine s_op (o_assign (v := (.bool false)) rfl ?_)
  refine s_nil ?_
  refine t_norm (hK1 _ _ ?_)
  refine wp_seq_k fun K5 hK5 => ?_
  refine wp_seq_k fun K6 hK6 => ?_
  refine c_region ?_
  refine s_op (o_move (v := (S s)) rfl ?_)
  refine s_op (o_slen Tryz.underlying9 rfl ?_)
  refine s_op (o_neq (a := (s.length : Int)) (b := 256) rfl rfl ?_)
  refine s_nil ?_
  refine t_norm (hK6 _ _ ?_)
  refine c_cond rfl (fun h7 => ?_) (fun h7 => ?_)
  · -- (s.length : Int) ≠ 256
    refine wp_seq_k fun K8 hK8 => ?_
    refine c_region ?_
    refine s_op (o_sight (v := (.agg #[(.int .i64 0), (.int .i64 0), (.slice none 0 0)])) (fun _ => by kernel_rfl) ?_)
    refine s_eff (o_storeN (vs := [(.int .i64 0), (.int .i64 0), (.slice none 0 0)]) (c' := #[(.int .i64 0), (.int .i64 0), (.slice none 0 0)]) ti36 rfl rfl rfl rfl (by intro u hu; simp only [List.mem_cons, List.not_mem_nil, or_false] at hu; rcases hu with rfl | rfl | rfl <;> first | rfl) (by simp) (by kernel_rfl) (hH4.front 0 rfl) fun w9 hH10 => ?_)
    refine s_op (o_assign (v := (.bool false)) rfl ?_)
    refine s_nil ?_
    refine t_norm (hK8 _ _ ?_)
    refine wp_ret ?_
    refine t_ret (c_retC2 Tryz.results66 rfl (run_loadVarN (cs := [(.int .i64 0), (.int .i64 0), (.slice none 0 0)]) Tryz.underlying36 rfl ti36 hH10 (seg_sub 0 rfl) (CellsAt.one rfl)) (x := (.bool false)) rfl ?_)
    have hE_ := readP_no (s := s) (.inl (by omega))
    have q11 : (readP s).2.1 = 0 := by rw [hE_]
    have q12 : (readP s).2.2.1 = 0 := by rw [hE_]
    have q13 : (readP s).2.2.2 = ([] : List Cel) := by rw [hE_]
    have q14 : (readP s).1 = false := by rw [hE_]
    have hH15 : Has E w9 [[], R] := (Has.nil (hH10.front 1 rfl)).first 2 rfl
    exact ⟨_, _, by rw [q11, q12]; rw [q14], (by rw [q13]; exact (Own.nil 70 2)), hH15⟩
  · -- not: (s.length : Int) ≠ 256
    refine wp_skip ?_
    refine t_norm (hK5 _ _ ?_)
    refine wp_seq_k fun K16 hK16 => ?_
    refine c_region ?_
    refine s_op (o_alloc (cs := #[(.int .i64 0), (.int .i64 0), (.slice none 0 0)]) ti36 rfl hH4 fun b17 w18 hH19 => ?_)
    refine s_nil ?_
    refine t_norm (hK16 _ _ ?_)
    refine wp_seq_k fun K20 hK20 => ?_
    refine c_region ?_
    refine s_op (o_move (v := (S s)) rfl ?_)
    refine s_op (o_callf (vs := #[(S s), (.int .i64 1)]) ca106 rfl (args2 rfl rfl) (take_c hH19.all 1 s (by omega)) ?_)
    rintro _ w23 ⟨rfl, hX21⟩
    refine ⟨_, rfl, ?_⟩
    have hH22 := hX21.of_all
    refine s_op (o_move (v := (.tuple #[(.int .i64 ((takeS s 1).1)), (S ((takeS s 1).2.1)), (.bool ((takeS s 1).2.2))])) rfl ?_)
    refine s_op (o_extract (v := (.int .i64 ((takeS s 1).1))) rfl rfl ?_)
    refine s_op (o_extract (v := (S ((takeS s 1).2.1))) rfl rfl ?_)
    refine s_op (o_extract (v := (.bool ((takeS s 1).2.2))) rfl rfl ?_)
    refine s_op (o_assign (v := (.int .i64 ((takeS s 1).1))) rfl ?_)
    refine s_op (o_assign (v := (S ((takeS s 1).2.1))) rfl ?_)
    refine s_op (o_assign (v := (.bool ((takeS s 1).2.2))) rfl ?_)
    refine s_nil ?_
    refine t_norm (hK20 _ _ ?_)
    refine wp_seq_k fun K24 hK24 => ?_
    refine c_region ?_
    refine s_op (o_move (v := (S ((takeS s 1).2.1))) rfl ?_)
    refine s_op (o_callf (vs := #[(S ((takeS s 1).2.1)), (.int .i64 8)]) ca106 rfl (args2 rfl rfl) (take_c hH22.all 8 ((takeS s 1).2.1) (by omega)) ?_)
    rintro _ w27 ⟨rfl, hX25⟩
    refine ⟨_, rfl, ?_⟩
    have hH26 := hX25.of_all
    refine s_op (o_move (v := (.tuple #[(.int .i64 ((takeS ((takeS s 1).2.1) 8).1)), (S ((takeS ((takeS s 1).2.1) 8).2.1)), (.bool ((takeS ((takeS s 1).2.1) 8).2.2))])) rfl ?_)
    refine s_op (o_extract (v := (.int .i64 ((takeS ((takeS s 1).2.1) 8).1))) rfl rfl ?_)
    refine s_op (o_extract (v := (S ((takeS ((takeS s 1).2.1) 8).2.1))) rfl rfl ?_)
    refine s_op (o_extract (v := (.bool ((takeS ((takeS s 1).2.1) 8).2.2))) rfl rfl ?_)
    refine s_op (o_assign (v := (.int .i64 ((takeS ((takeS s 1).2.1) 8).1))) rfl ?_)
    refine s_op (o_assign (v := (S ((takeS ((takeS s 1).2.1) 8).2.1))) rfl ?_)
    refine s_op (o_assign (v := (.bool ((takeS ((takeS s 1).2.1) 8).2.2))) rfl ?_)
    refine s_nil ?_
    refine t_norm (hK24 _ _ ?_)
    refine wp_seq_k fun K28 hK28 => ?_
    refine c_region ?_
    refine s_op (o_move (v := (S ((takeS ((takeS s 1).2.1) 8).2.1))) rfl ?_)
    refine s_op (o_callf (vs := #[(S ((takeS ((takeS s 1).2.1) 8).2.1)), (.int .i64 1)]) ca106 rfl (args2 rfl rfl) (take_c hH26.all 1 ((takeS ((takeS s 1).2.1) 8).2.1) (by omega)) ?_)
    rintro _ w31 ⟨rfl, hX29⟩
    refine ⟨_, rfl, ?_⟩
    have hH30 := hX29.of_all
    refine s_op (o_move (v := (.tuple #[(.int .i64 ((takeS ((takeS ((takeS s 1).2.1) 8).2.1) 1).1)), (S ((takeS ((takeS ((takeS s 1).2.1) 8).2.1) 1).2.1)), (.bool ((takeS ((takeS ((takeS s 1).2.1) 8).2.1) 1).2.2))])) rfl ?_)
    refine s_op (o_extract (v := (.int .i64 ((takeS ((takeS ((takeS s 1).2.1) 8).2.1) 1).1))) rfl rfl ?_)
    refine s_op (o_extract (v := (S ((takeS ((takeS ((takeS s 1).2.1) 8).2.1) 1).2.1))) rfl rfl ?_)
    refine s_op (o_extract (v := (.bool ((takeS ((takeS ((takeS s 1).2.1) 8).2.1) 1).2.2))) rfl rfl ?_)
    refine s_op (o_assign (v := (.int .i64 ((takeS ((takeS ((takeS s 1).2.1) 8).2.1) 1).1))) rfl ?_)
    refine s_op (o_assign (v := (S ((takeS ((takeS ((takeS s 1).2.1) 8).2.1) 1).2.1))) rfl ?_)
    refine s_op (o_assign (v := (.bool ((takeS ((takeS ((takeS s 1).2.1) 8).2.1) 1).2.2))) rfl ?_)
    refine s_nil ?_
    refine t_norm (hK28 _ _ ?_)
    refine wp_seq_k fun K32 hK32 => ?_
    refine c_region ?_
    refine s_op (o_move (v := (.int .i64 ((takeS s 1).1))) rfl ?_)
    refine s_op (o_move (v := (.int .i64 ((takeS ((takeS s 1).2.1) 8).1))) rfl ?_)
    refine s_op (o_fieldAddr (k := 0) (fun _ => by kernel_rfl) rfl ?_)
    refine s_eff (o_store1 (c' := #[(.int .i64 ((takeS s 1).1)), (.int .i64 0), (.slice none 0 0)]) ti3 rfl rfl rfl (by simp) rfl (hH30.front 0 rfl) fun w33 hH34 => ?_)
    refine s_op (o_fieldAddr (k := 1) (fun _ => by kernel_rfl) rfl ?_)
    refine s_eff (o_store1 (c' := #[(.int .i64 ((takeS s 1).1)), (.int .i64 ((takeS ((takeS s 1).2.1) 8).1)), (.slice none 0 0)]) ti3 rfl rfl rfl (by simp) rfl (hH34.front 0 rfl) fun w35 hH36 => ?_)
    refine s_nil ?_
    refine t_norm (hK32 _ _ ?_)
    refine wp_seq_k fun K37 hK37 => ?_
    refine wp_block ?_
    let I39 : Nat → (Nat → Value) → World → Prop := fun n__ r__ w__ => ∃ (ok : Bool) (n : Int) (rest : Bs) (vo : Value) (so : List Hp) (acc : List Cel), n__ = n.toNat ∧ Has E w__ [so, [Hp.one b17 (.cells #[(.int .i64 ((takeS s 1).1)), (.int .i64 ((takeS ((takeS s 1).2.1) 8).1)), vo] 36 (0, 0))], [Hp.one b2 (.cells #[(.int .i64 0), (.int .i64 0), (.slice none 0 0)] 36 (0, 0))], R] ∧ (Own 70 2 vo acc.length (acc.flatMap ceC) so) ∧ (acc.length ≤ 8) ∧ (rest.length ≤ 256) ∧ (n ≤ 255) ∧ (goP0 s = goS ok n rest acc) ∧ r__ 0 = (S s) ∧ r__ 2 = (.pointer (some ⟨b2, 0, none⟩)) ∧ r__ 3 = (.bool false) ∧ r__ 4 = (.pointer (some ⟨b17, 0, none⟩)) ∧ r__ 5 = (.int .i64 ((takeS s 1).1)) ∧ r__ 6 = (S rest) ∧ r__ 8 = (.int .i64 ((takeS ((takeS s 1).2.1) 8).1)) ∧ r__ 9 = (.bool ok) ∧ r__ 10 = (.int .i64 n) ∧ r__ 15 = (.bool (decide ((s.length : Int) ≠ 256)))
    have hH40 : Has E w35 [[], [Hp.one b17 (.cells #[(.int .i64 ((takeS s 1).1)), (.int .i64 ((takeS ((takeS s 1).2.1) 8).1)), (.slice none 0 0)] 36 (0, 0))], [Hp.one b2 (.cells #[(.int .i64 0), (.int .i64 0), (.slice none 0 0)] 36 (0, 0))], R] := (Has.nil (((hH36.front 2 rfl).front 2 rfl).front 2 rfl)).first 4 rfl
    refine c_loop I39 _ ⟨((takeS ((takeS s 1).2.1) 8).2.2), ((takeS ((takeS ((takeS s 1).2.1) 8).2.1) 1).1), ((takeS ((takeS ((takeS s 1).2.1) 8).2.1) 1).2.1), (.slice none 0 0), [], [], rfl, hH40, Own.nil 70 2, (by simp), (by omega), (by omega), goS_start s, rfl, rfl, rfl, rfl, rfl, rfl, rfl, rfl, rfl, rfl⟩ ?_
    rintro n_ r43 w41 ⟨ok, n, rest, vo, so, acc, rfl, hH42, hoo, hal, hrl, hn, hgo, e38_0, e38_2, e38_3, e38_4, e38_5, e38_6, e38_8, e38_9, e38_10, e38_15⟩
    refine wp_seq_k fun K44 hK44 => ?_
    refine wp_seq_k fun K45 hK45 => ?_
    refine c_region ?_
    refine s_op (o_move (v := (.bool ok)) e38_9 ?_)
    refine s_op (o_move (v := (.bool ok)) rfl ?_)
    rcases Bool.eq_false_or_eq_true ok with h46 | h46
    · -- ok
      refine s_on 40 rfl (congrArg Value.bool h46) (o_move (v := (.int .i64 n)) e38_10 ?_)
      refine s_on 40 rfl (congrArg Value.bool h46) (o_gtr (a := n) (b := 0) rfl rfl ?_)
      refine s_op (o_pick_t (u := (.bool (decide (0 < n)))) ((rfl : _ = _).trans (congrArg Value.bool h46)) rfl ?_)
      refine s_op (o_move (v := (.bool (decide (0 < n)))) rfl ?_)
      by_cases h47 : 0 < n
      · -- 0 < n
        refine s_on 44 rfl (congrArg Value.bool (decide_eq_true h47)) (o_fieldAddr (k := 2) (fun _ => by kernel_rfl) e38_4 ?_)
        refine s_on 44 rfl (congrArg Value.bool (decide_eq_true h47)) (o_load1 (v := vo) Tryz.underlying34 rfl rfl hH42 (seg_sub 1 rfl) (CellsAt.one rfl) ?_)
        refine s_on 44 rfl (congrArg Value.bool (decide_eq_true h47)) (o_lenS Tryz.underlying34 rfl hoo.sl ?_)
        refine s_on 44 rfl (congrArg Value.bool (decide_eq_true h47)) (o_lss (a := ((acc.length : Nat) : Int)) (b := 8) rfl rfl ?_)
        refine s_op (o_pick_t (u := (.bool (decide (((acc.length : Nat) : Int) < 8)))) ((rfl : _ = _).trans (congrArg Value.bool (decide_eq_true h47))) rfl ?_)
        refine s_nil ?_
        refine t_norm (hK45 _ _ ?_)
        refine c_cond rfl (fun h48 => ?_) (fun h48 => ?_)
        · -- ((acc.length : Nat) : Int) < 8
          refine wp_skip ?_
          refine t_norm (hK44 _ _ ?_)
          refine wp_seq_k fun K49 hK49 => ?_
          refine wp_block ?_
          refine wp_seq_k fun K50 hK50 => ?_
          refine c_region ?_
          refine s_op (o_alloc (cs := #[(S ([] : List UInt8)), (S ([] : List UInt8))]) ti70 rfl hH42 fun b51 w52 hH53 => ?_)
          refine s_nil ?_
          refine t_norm (hK50 _ _ ?_)
          refine wp_seq_k fun K54 hK54 => ?_
          refine c_region ?_
          refine s_op (o_move (v := (S rest)) e38_6 ?_)
          refine s_op (o_callf (vs := #[(S rest)]) ca107 rfl (args1 rfl) (text_c (s := rest) hH53.all (by first | omega | (simp only []; omega) | (simp; done) | (simp; omega))) ?_)
          rintro _ w57 ⟨rfl, hX55⟩
          refine ⟨_, rfl, ?_⟩
          have hH56 := hX55.of_all
          have htl_ := textS_le rest
          refine s_op (o_move (v := (.tuple #[(S ((textS rest).1)), (S ((textS rest).2.1)), (.bool ((textS rest).2.2))])) rfl ?_)
          refine s_op (o_extract (v := (S ((textS rest).1))) rfl rfl ?_)
          refine s_op (o_extract (v := (S ((textS rest).2.1))) rfl rfl ?_)
          refine s_op (o_extract (v := (.bool ((textS rest).2.2))) rfl rfl ?_)
          refine s_op (o_fieldAddr (k := 0) (fun _ => by kernel_rfl) rfl ?_)
          refine s_eff (o_store1 (c' := #[(S ((textS rest).1)), (S ([] : List UInt8))]) ti9 rfl rfl rfl (by simp) rfl (hH56.front 0 rfl) fun w58 hH59 => ?_)
          refine s_op (o_assign (v := (S ((textS rest).2.1))) rfl ?_)
          refine s_op (o_assign (v := (.bool ((textS rest).2.2))) rfl ?_)
          refine s_nil ?_
          refine t_norm (hK54 _ _ ?_)
          refine wp_seq_k fun K60 hK60 => ?_
          refine wp_seq_k fun K61 hK61 => ?_
          refine c_region ?_
          refine s_op (o_move (v := (.bool ((textS rest).2.2))) rfl ?_)
          refine s_nil ?_
          refine t_norm (hK61 _ _ ?_)
          refine c_condb rfl (fun h62 => ?_) (fun h62 => ?_)
          · -- (textS rest).2.2
            refine c_region ?_
            refine s_op (o_move (v := (S ((textS rest).2.1))) rfl ?_)
            refine s_op (o_callf (vs := #[(S ((textS rest).2.1))]) ca107 rfl (args1 rfl) (text_c (s := (textS rest).2.1) hH59.all (by first | omega | (simp only []; omega) | (simp; done) | (simp; omega))) ?_)
            rintro _ w65 ⟨rfl, hX63⟩
            refine ⟨_, rfl, ?_⟩
            have hH64 := hX63.of_all
            have htl_ := textS_le ((textS rest).2.1)
            refine s_op (o_move (v := (.tuple #[(S ((textS ((textS rest).2.1)).1)), (S ((textS ((textS rest).2.1)).2.1)), (.bool ((textS ((textS rest).2.1)).2.2))])) rfl ?_)
            refine s_op (o_extract (v := (S ((textS ((textS rest).2.1)).1))) rfl rfl ?_)
            refine s_op (o_extract (v := (S ((textS ((textS rest).2.1)).2.1))) rfl rfl ?_)
            refine s_op (o_extract (v := (.bool ((textS ((textS rest).2.1)).2.2))) rfl rfl ?_)
            refine s_op (o_fieldAddr (k := 1) (fun _ => by kernel_rfl) rfl ?_)
            refine s_eff (o_store1 (c' := #[(S ((textS rest).1)), (S ((textS ((textS rest).2.1)).1))]) ti9 rfl rfl rfl (by simp) rfl (hH64.front 0 rfl) fun w66 hH67 => ?_)
            refine s_op (o_assign (v := (S ((textS ((textS rest).2.1)).2.1))) rfl ?_)
            refine s_op (o_assign (v := (.bool ((textS ((textS rest).2.1)).2.2))) rfl ?_)
            refine s_nil ?_
            refine t_norm (hK60 _ _ ?_)
            refine c_region ?_
            refine s_op (o_fieldAddr (k := 2) (fun _ => by kernel_rfl) e38_4 ?_)
            refine s_op (o_load1 (v := vo) Tryz.underlying34 rfl rfl hH67 (seg_sub 2 rfl) (CellsAt.one rfl) ?_)
            refine s_op (o_loadN (cs := [(S ((textS rest).1)), (S ((textS ((textS rest).2.1)).1))]) Tryz.underlying70 rfl ti70 rfl hH67 (seg_sub 0 rfl) (CellsAt.one rfl) ?_)
            refine s_op (o_buildSlice (ps := #[(0, (.agg #[(S ((textS rest).1)), (S ((textS ((textS rest).2.1)).1))]))]) (cells := #[(S ((textS rest).1)), (S ((textS ((textS rest).2.1)).1))]) Tryz.underlying34 ti70 (by decide) (parts1 rfl) (by kernel_rfl) hH67 fun b68 w69 hH70 => ?_)
            refine s_op (o_append Tryz.underlying34 ti70 rfl (by decide) rfl hoo rfl (sl_litF (f := ceC) (l := [(((textS rest).1, (textS ((textS rest).2.1)).1) : Cel)]) ceC_len rfl rfl (by simp)) (hH70.front 2 rfl) (seg_sub 0 rfl) (one_ceC _) (by simp; omega) (by simp; omega) fun v71 s72 w74 ho73 hH75 => ?_)
            have ho73 : Own 70 2 v71 (acc ++ [(((textS rest).1, (textS ((textS rest).2.1)).1) : Cel)]).length ((acc ++ [(((textS rest).1, (textS ((textS rest).2.1)).1) : Cel)]).flatMap ceC) s72 := ho73.appF
            refine s_op (o_fieldAddr (k := 2) (fun _ => by kernel_rfl) e38_4 ?_)
            refine s_eff (o_store1 (c' := #[(.int .i64 ((takeS s 1).1)), (.int .i64 ((takeS ((takeS s 1).2.1) 8).1)), v71]) ti34 rfl rfl ho73.one (by simp) rfl (hH75.front 3 rfl) fun w76 hH77 => ?_)
            refine s_nil ?_
            refine b_norm ?_
            refine t_norm (hK49 _ _ ?_)
            refine c_region ?_
            refine s_op (o_move (v := (.int .i64 n)) e38_10 ?_)
            refine s_op (o_sub (a := n) (b := 1) rfl rfl (w64 (by omega) (by omega)) ?_)
            refine s_op (o_assign (v := (.int .i64 (n - 1))) rfl ?_)
            refine s_nil ?_
            have hH78 : Has E w76 [s72, [Hp.one b17 (.cells #[(.int .i64 ((takeS s 1).1)), (.int .i64 ((takeS ((takeS s 1).2.1) 8).1)), v71] 36 (0, 0))], [Hp.one b2 (.cells #[(.int .i64 0), (.int .i64 0), (.slice none 0 0)] 36 (0, 0))], R] := ((((hH77.front 5 rfl).front 5 rfl).front 2 rfl).front 3 rfl).first 4 rfl
            refine t_norm ⟨(n - 1).toNat, _, rfl, ?_, ?_⟩
            · omega
            · exact ⟨((textS ((textS rest).2.1)).2.2), (n - 1), ((textS ((textS rest).2.1)).2.1), v71, s72, (acc ++ [(((textS rest).1, (textS ((textS rest).2.1)).1) : Cel)]), rfl, hH78, (ho73), (by simp only [List.length_append, List.length_cons, List.length_nil]; omega), (by omega), (by omega), (by ((have h_ := goS_step (r3 := ((textS ((textS rest).2.1)).2.1)) hgo h46 (by omega) (by omega)); rw [if_pos (by simpa using h62)] at h_; exact h_)), e38_0, e38_2, e38_3, e38_4, e38_5, rfl, e38_8, rfl, rfl, e38_15⟩
          · -- not: (textS rest).2.2
            refine wp_skip ?_
            refine t_norm (hK60 _ _ ?_)
            refine c_region ?_
            refine s_op (o_fieldAddr (k := 2) (fun _ => by kernel_rfl) e38_4 ?_)
            refine s_op (o_load1 (v := vo) Tryz.underlying34 rfl rfl hH59 (seg_sub 2 rfl) (CellsAt.one rfl) ?_)
            refine s_op (o_loadN (cs := [(S ((textS rest).1)), (S ([] : List UInt8))]) Tryz.underlying70 rfl ti70 rfl hH59 (seg_sub 0 rfl) (CellsAt.one rfl) ?_)
            refine s_op (o_buildSlice (ps := #[(0, (.agg #[(S ((textS rest).1)), (S ([] : List UInt8))]))]) (cells := #[(S ((textS rest).1)), (S ([] : List UInt8))]) Tryz.underlying34 ti70 (by decide) (parts1 rfl) (by kernel_rfl) hH59 fun b79 w80 hH81 => ?_)
            refine s_op (o_append Tryz.underlying34 ti70 rfl (by decide) rfl hoo rfl (sl_litF (f := ceC) (l := [(((textS rest).1, ([] : List UInt8)) : Cel)]) ceC_len rfl rfl (by simp)) (hH81.front 2 rfl) (seg_sub 0 rfl) (one_ceC _) (by simp; omega) (by simp; omega) fun v82 s83 w85 ho84 hH86 => ?_)
            have ho84 : Own 70 2 v82 (acc ++ [(((textS rest).1, ([] : List UInt8)) : Cel)]).length ((acc ++ [(((textS rest).1, ([] : List UInt8)) : Cel)]).flatMap ceC) s83 := ho84.appF
            refine s_op (o_fieldAddr (k := 2) (fun _ => by kernel_rfl) e38_4 ?_)
            refine s_eff (o_store1 (c' := #[(.int .i64 ((takeS s 1).1)), (.int .i64 ((takeS ((takeS s 1).2.1) 8).1)), v82]) ti34 rfl rfl ho84.one (by simp) rfl (hH86.front 3 rfl) fun w87 hH88 => ?_)
            refine s_nil ?_
            refine b_norm ?_
            refine t_norm (hK49 _ _ ?_)
            refine c_region ?_
            refine s_op (o_move (v := (.int .i64 n)) e38_10 ?_)
            refine s_op (o_sub (a := n) (b := 1) rfl rfl (w64 (by omega) (by omega)) ?_)
            refine s_op (o_assign (v := (.int .i64 (n - 1))) rfl ?_)
            refine s_nil ?_
            have hH89 : Has E w87 [s83, [Hp.one b17 (.cells #[(.int .i64 ((takeS s 1).1)), (.int .i64 ((takeS ((takeS s 1).2.1) 8).1)), v82] 36 (0, 0))], [Hp.one b2 (.cells #[(.int .i64 0), (.int .i64 0), (.slice none 0 0)] 36 (0, 0))], R] := ((((hH88.front 5 rfl).front 5 rfl).front 2 rfl).front 3 rfl).first 4 rfl
            refine t_norm ⟨(n - 1).toNat, _, rfl, ?_, ?_⟩
            · omega
            · exact ⟨((textS rest).2.2), (n - 1), ((textS rest).2.1), v82, s83, (acc ++ [(((textS rest).1, ([] : List UInt8)) : Cel)]), rfl, hH89, (ho84), (by simp only [List.length_append, List.length_cons, List.length_nil]; omega), (by omega), (by omega), (by ((have h_ := goS_step (r3 := ((textS rest).2.1)) hgo h46 (by omega) (by omega)); rw [if_neg (by simpa using h62)] at h_; rw [show (textS rest).2.2 = false by simpa using h62]; exact h_)), e38_0, e38_2, e38_3, e38_4, e38_5, rfl, e38_8, rfl, rfl, e38_15⟩
        · -- not: ((acc.length : Nat) : Int) < 8
          refine wp_exit ?_
          refine t_exit (t_exit (x_in (?_)))
          refine t_norm (hK37 _ _ ?_)
          refine wp_seq_k fun K90 hK90 => ?_
          refine wp_seq_k fun K91 hK91 => ?_
          refine c_region ?_
          refine s_op (o_move (v := (.bool ok)) e38_9 ?_)
          refine s_op (o_not (b := true) ((rfl : _ = _).trans (congrArg Value.bool h46)) ?_)
          refine s_op (o_move (v := (.bool false)) rfl ?_)
          refine s_on 75 rfl rfl (o_loadN (cs := [(.int .i64 ((takeS s 1).1)), (.int .i64 ((takeS ((takeS s 1).2.1) 8).1)), vo]) Tryz.underlying36 rfl ti36 e38_4 hH42 (seg_sub 1 rfl) (CellsAt.one rfl) ?_)
          refine s_on 75 rfl rfl (o_callf (vs := #[(.agg #[(.int .i64 ((takeS s 1).1)), (.int .i64 ((takeS ((takeS s 1).2.1) 8).1)), vo])]) ca96 rfl (args1 rfl) (plaid_c (no := (takeS s 1).1) (gsn := (takeS ((takeS s 1).2.1) 8).1) (l := acc) hH42.all (hoo.sl.mono (seg_sub 0 rfl)) (hg.mono (seg_sub 3 rfl))) ?_)
          rintro _ w94 ⟨rfl, hX92⟩
          refine ⟨_, rfl, ?_⟩
          have hH93 := hX92.of_all
          have hll_ := laidP_le ((takeS s 1).1) ((takeS ((takeS s 1).2.1) 8).1) acc
          refine s_on 75 rfl rfl (o_move (v := (S s)) e38_0 ?_)
          refine s_on 75 rfl rfl (o_sneq (a := (laidP ((takeS s 1).1) ((takeS ((takeS s 1).2.1) 8).1) acc)) (b := s) rfl rfl ?_)
          refine s_op (o_pick_f (u := (.bool (decide ((laidP ((takeS s 1).1) ((takeS ((takeS s 1).2.1) 8).1) acc) ≠ s)))) rfl rfl ?_)
          refine s_nil ?_
          refine t_norm (hK91 _ _ ?_)
          refine c_cond rfl (fun h95 => ?_) (fun h95 => ?_)
          · -- (laidP ((takeS s 1).1) ((takeS ((takeS s 1).2.1) 8).1) acc) ≠ s
            refine wp_seq_k fun K96 hK96 => ?_
            refine c_region ?_
            refine s_op (o_sight (v := (.agg #[(.int .i64 0), (.int .i64 0), (.slice none 0 0)])) (fun _ => by kernel_rfl) ?_)
            refine s_eff (o_storeN (vs := [(.int .i64 0), (.int .i64 0), (.slice none 0 0)]) (c' := #[(.int .i64 0), (.int .i64 0), (.slice none 0 0)]) ti36 e38_2 rfl rfl rfl (by intro u hu; simp only [List.mem_cons, List.not_mem_nil, or_false] at hu; rcases hu with rfl | rfl | rfl <;> first | rfl) (by simp) (by kernel_rfl) (hH93.front 2 rfl) fun w97 hH98 => ?_)
            refine s_op (o_assign (v := (.bool false)) rfl ?_)
            refine s_nil ?_
            refine t_norm (hK96 _ _ ?_)
            refine wp_ret ?_
            refine t_ret (c_retC2 Tryz.results66 e38_2 (run_loadVarN (cs := [(.int .i64 0), (.int .i64 0), (.slice none 0 0)]) Tryz.underlying36 rfl ti36 hH98 (seg_sub 0 rfl) (CellsAt.one rfl)) (x := (.bool false)) rfl ?_)
            have hge_ := goS_end hgo (by first | exact .inr (.inl (by omega)) | exact .inr (.inr (by omega)) | exact .inl (by simpa using h46))
            have hE_ := readP_no (s := s) (by rw [hge_]; first | exact .inr (.inl (by simpa using h7)) | exact .inr (.inr h7) | exact .inr (.inl (by simpa using h46)) | exact .inr (.inr h46) | exact .inr (.inl (by simpa using h47)) | exact .inr (.inr h47) | exact .inr (.inl (by simpa using h48)) | exact .inr (.inr h48) | exact .inr (.inl (by simpa using h95)) | exact .inr (.inr h95))
            have q99 : (readP s).2.1 = 0 := by rw [hE_]
            have q100 : (readP s).2.2.1 = 0 := by rw [hE_]
            have q101 : (readP s).2.2.2 = ([] : List Cel) := by rw [hE_]
            have q102 : (readP s).1 = false := by rw [hE_]
            have hH103 : Has E w97 [[], R] := (Has.nil (hH98.front 3 rfl)).first 2 rfl
            exact ⟨_, _, by rw [q99, q100]; rw [q102], (by rw [q101]; exact (Own.nil 70 2)), hH103⟩
          · -- not: (laidP ((takeS s 1).1) ((takeS ((takeS s 1).2.1) 8).1) acc) ≠ s
            refine wp_skip ?_
            refine t_norm (hK90 _ _ ?_)
            refine wp_seq_k fun K104 hK104 => ?_
            refine c_region ?_
            refine s_op (o_loadN (cs := [(.int .i64 ((takeS s 1).1)), (.int .i64 ((takeS ((takeS s 1).2.1) 8).1)), vo]) Tryz.underlying36 rfl ti36 e38_4 hH93 (seg_sub 1 rfl) (CellsAt.one rfl) ?_)
            refine s_eff (o_storeN (vs := [(.int .i64 ((takeS s 1).1)), (.int .i64 ((takeS ((takeS s 1).2.1) 8).1)), vo]) (c' := #[(.int .i64 ((takeS s 1).1)), (.int .i64 ((takeS ((takeS s 1).2.1) 8).1)), vo]) ti36 e38_2 rfl rfl rfl (by intro u hu; simp only [List.mem_cons, List.not_mem_nil, or_false] at hu; rcases hu with rfl | rfl | rfl <;> first | rfl | exact hoo.one) (by simp) (by kernel_rfl) (hH93.front 2 rfl) fun w105 hH106 => ?_)
            refine s_op (o_assign (v := (.bool true)) rfl ?_)
            refine s_nil ?_
            refine t_norm (hK104 _ _ ?_)
            refine wp_ret ?_
            refine c_retC2 Tryz.results66 e38_2 (run_loadVarN (cs := [(.int .i64 ((takeS s 1).1)), (.int .i64 ((takeS ((takeS s 1).2.1) 8).1)), vo]) Tryz.underlying36 rfl ti36 hH106 (seg_sub 0 rfl) (CellsAt.one rfl)) (x := (.bool true)) rfl ?_
            have hge_ := goS_end hgo (by first | exact .inr (.inl (by omega)) | exact .inr (.inr (by omega)))
            rw [h46] at hge_
            have hE_ := readP_yes (s := s) (by omega) hge_ (Classical.not_not.1 h95)
            have q107 : (readP s).2.1 = (takeS s 1).1 := by rw [hE_]
            have q108 : (readP s).2.2.1 = (takeS ((takeS s 1).2.1) 8).1 := by rw [hE_]
            have q109 : (readP s).2.2.2 = acc := by rw [hE_]
            have q110 : (readP s).1 = true := by rw [hE_]
            have hH111 : Has E w105 [so, R] := ((hH106.front 3 rfl).front 2 rfl).first 2 rfl
            exact ⟨_, _, by rw [q107, q108]; rw [q110], (by rw [q109]; exact hoo), hH111⟩
      · -- not: 0 < n
        refine s_off (b' := false) 44 rfl (congrArg Value.bool (decide_eq_false h47)) rfl ?_
        refine s_off (b' := false) 44 rfl (congrArg Value.bool (decide_eq_false h47)) rfl ?_
        refine s_off (b' := false) 44 rfl (congrArg Value.bool (decide_eq_false h47)) rfl ?_
        refine s_off (b' := false) 44 rfl (congrArg Value.bool (decide_eq_false h47)) rfl ?_
        refine s_op (o_pick_f (u := (.bool false)) ((rfl : _ = _).trans (congrArg Value.bool (decide_eq_false h47))) rfl ?_)
        refine s_nil ?_
        refine t_norm (hK45 _ _ ?_)
        refine c_false rfl rfl ?_
        refine wp_exit ?_
        refine t_exit (t_exit (x_in (?_)))
        refine t_norm (hK37 _ _ ?_)
        refine wp_seq_k fun K112 hK112 => ?_
        refine wp_seq_k fun K113 hK113 => ?_
        refine c_region ?_
        refine s_op (o_move (v := (.bool ok)) e38_9 ?_)
        refine s_op (o_not (b := true) ((rfl : _ = _).trans (congrArg Value.bool h46)) ?_)
        refine s_op (o_move (v := (.bool false)) rfl ?_)
        refine s_on 75 rfl rfl (o_loadN (cs := [(.int .i64 ((takeS s 1).1)), (.int .i64 ((takeS ((takeS s 1).2.1) 8).1)), vo]) Tryz.underlying36 rfl ti36 e38_4 hH42 (seg_sub 1 rfl) (CellsAt.one rfl) ?_)
        refine s_on 75 rfl rfl (o_callf (vs := #[(.agg #[(.int .i64 ((takeS s 1).1)), (.int .i64 ((takeS ((takeS s 1).2.1) 8).1)), vo])]) ca96 rfl (args1 rfl) (plaid_c (no := (takeS s 1).1) (gsn := (takeS ((takeS s 1).2.1) 8).1) (l := acc) hH42.all (hoo.sl.mono (seg_sub 0 rfl)) (hg.mono (seg_sub 3 rfl))) ?_)
        rintro _ w116 ⟨rfl, hX114⟩
        refine ⟨_, rfl, ?_⟩
        have hH115 := hX114.of_all
        have hll_ := laidP_le ((takeS s 1).1) ((takeS ((takeS s 1).2.1) 8).1) acc
        refine s_on 75 rfl rfl (o_move (v := (S s)) e38_0 ?_)
        refine s_on 75 rfl rfl (o_sneq (a := (laidP ((takeS s 1).1) ((takeS ((takeS s 1).2.1) 8).1) acc)) (b := s) rfl rfl ?_)
        refine s_op (o_pick_f (u := (.bool (decide ((laidP ((takeS s 1).1) ((takeS ((takeS s 1).2.1) 8).1) acc) ≠ s)))) rfl rfl ?_)
        refine s_nil ?_
        refine t_norm (hK113 _ _ ?_)
        refine c_cond rfl (fun h117 => ?_) (fun h117 => ?_)
        · -- (laidP ((takeS s 1).1) ((takeS ((takeS s 1).2.1) 8).1) acc) ≠ s
          refine wp_seq_k fun K118 hK118 => ?_
          refine c_region ?_
          refine s_op (o_sight (v := (.agg #[(.int .i64 0), (.int .i64 0), (.slice none 0 0)])) (fun _ => by kernel_rfl) ?_)
          refine s_eff (o_storeN (vs := [(.int .i64 0), (.int .i64 0), (.slice none 0 0)]) (c' := #[(.int .i64 0), (.int .i64 0), (.slice none 0 0)]) ti36 e38_2 rfl rfl rfl (by intro u hu; simp only [List.mem_cons, List.not_mem_nil, or_false] at hu; rcases hu with rfl | rfl | rfl <;> first | rfl) (by simp) (by kernel_rfl) (hH115.front 2 rfl) fun w119 hH120 => ?_)
          refine s_op (o_assign (v := (.bool false)) rfl ?_)
          refine s_nil ?_
          refine t_norm (hK118 _ _ ?_)
          refine wp_ret ?_
          refine t_ret (c_retC2 Tryz.results66 e38_2 (run_loadVarN (cs := [(.int .i64 0), (.int .i64 0), (.slice none 0 0)]) Tryz.underlying36 rfl ti36 hH120 (seg_sub 0 rfl) (CellsAt.one rfl)) (x := (.bool false)) rfl ?_)
          have hge_ := goS_end hgo (by first | exact .inr (.inl (by omega)) | exact .inr (.inr (by omega)) | exact .inl (by simpa using h46))
          have hE_ := readP_no (s := s) (by rw [hge_]; first | exact .inr (.inl (by simpa using h7)) | exact .inr (.inr h7) | exact .inr (.inl (by simpa using h46)) | exact .inr (.inr h46) | exact .inr (.inl (by simpa using h47)) | exact .inr (.inr h47) | exact .inr (.inl (by simpa using h117)) | exact .inr (.inr h117))
          have q121 : (readP s).2.1 = 0 := by rw [hE_]
          have q122 : (readP s).2.2.1 = 0 := by rw [hE_]
          have q123 : (readP s).2.2.2 = ([] : List Cel) := by rw [hE_]
          have q124 : (readP s).1 = false := by rw [hE_]
          have hH125 : Has E w119 [[], R] := (Has.nil (hH120.front 3 rfl)).first 2 rfl
          exact ⟨_, _, by rw [q121, q122]; rw [q124], (by rw [q123]; exact (Own.nil 70 2)), hH125⟩
        · -- not: (laidP ((takeS s 1).1) ((takeS ((takeS s 1).2.1) 8).1) acc) ≠ s
          refine wp_skip ?_
          refine t_norm (hK112 _ _ ?_)
          refine wp_seq_k fun K126 hK126 => ?_
          refine c_region ?_
          refine s_op (o_loadN (cs := [(.int .i64 ((takeS s 1).1)), (.int .i64 ((takeS ((takeS s 1).2.1) 8).1)), vo]) Tryz.underlying36 rfl ti36 e38_4 hH115 (seg_sub 1 rfl) (CellsAt.one rfl) ?_)
          refine s_eff (o_storeN (vs := [(.int .i64 ((takeS s 1).1)), (.int .i64 ((takeS ((takeS s 1).2.1) 8).1)), vo]) (c' := #[(.int .i64 ((takeS s 1).1)), (.int .i64 ((takeS ((takeS s 1).2.1) 8).1)), vo]) ti36 e38_2 rfl rfl rfl (by intro u hu; simp only [List.mem_cons, List.not_mem_nil, or_false] at hu; rcases hu with rfl | rfl | rfl <;> first | rfl | exact hoo.one) (by simp) (by kernel_rfl) (hH115.front 2 rfl) fun w127 hH128 => ?_)
          refine s_op (o_assign (v := (.bool true)) rfl ?_)
          refine s_nil ?_
          refine t_norm (hK126 _ _ ?_)
          refine wp_ret ?_
          refine c_retC2 Tryz.results66 e38_2 (run_loadVarN (cs := [(.int .i64 ((takeS s 1).1)), (.int .i64 ((takeS ((takeS s 1).2.1) 8).1)), vo]) Tryz.underlying36 rfl ti36 hH128 (seg_sub 0 rfl) (CellsAt.one rfl)) (x := (.bool true)) rfl ?_
          have hge_ := goS_end hgo (by first | exact .inr (.inl (by omega)) | exact .inr (.inr (by omega)))
          rw [h46] at hge_
          have hE_ := readP_yes (s := s) (by omega) hge_ (Classical.not_not.1 h117)
          have q129 : (readP s).2.1 = (takeS s 1).1 := by rw [hE_]
          have q130 : (readP s).2.2.1 = (takeS ((takeS s 1).2.1) 8).1 := by rw [hE_]
          have q131 : (readP s).2.2.2 = acc := by rw [hE_]
          have q132 : (readP s).1 = true := by rw [hE_]
          have hH133 : Has E w127 [so, R] := ((hH128.front 3 rfl).front 2 rfl).first 2 rfl
          exact ⟨_, _, by rw [q129, q130]; rw [q132], (by rw [q131]; exact hoo), hH133⟩
    · -- not: ok
      refine s_off (b' := false) 40 rfl (congrArg Value.bool h46) rfl ?_
      refine s_off (b' := false) 40 rfl (congrArg Value.bool h46) rfl ?_
      refine s_op (o_pick_f (u := (.bool false)) ((rfl : _ = _).trans (congrArg Value.bool h46)) rfl ?_)
      refine s_op (o_move (v := (.bool false)) rfl ?_)
      refine s_off (b' := false) 44 rfl rfl rfl ?_
      refine s_off (b' := false) 44 rfl rfl rfl ?_
      refine s_off (b' := false) 44 rfl rfl rfl ?_
      refine s_off (b' := false) 44 rfl rfl rfl ?_
      refine s_op (o_pick_f (u := (.bool false)) rfl rfl ?_)
      refine s_nil ?_
      refine t_norm (hK45 _ _ ?_)
      refine c_false rfl rfl ?_
      refine wp_exit ?_
      refine t_exit (t_exit (x_in (?_)))
      refine t_norm (hK37 _ _ ?_)
      refine wp_seq_k fun K134 hK134 => ?_
      refine wp_seq_k fun K135 hK135 => ?_
      refine c_region ?_
      refine s_op (o_move (v := (.bool ok)) e38_9 ?_)
      refine s_op (o_not (b := false) ((rfl : _ = _).trans (congrArg Value.bool h46)) ?_)
      refine s_op (o_move (v := (.bool true)) rfl ?_)
      refine s_off (b' := true) 75 rfl rfl rfl ?_
      refine s_off (b' := true) 75 rfl rfl rfl ?_
      refine s_off (b' := true) 75 rfl rfl rfl ?_
      refine s_off (b' := true) 75 rfl rfl rfl ?_
      refine s_op (o_pick_t (u := (.bool true)) rfl rfl ?_)
      refine s_nil ?_
      refine t_norm (hK135 _ _ ?_)
      refine c_true rfl rfl ?_
      refine wp_seq_k fun K136 hK136 => ?_
      refine c_region ?_
      refine s_op (o_sight (v := (.agg #[(.int .i64 0), (.int .i64 0), (.slice none 0 0)])) (fun _ => by kernel_rfl) ?_)
      refine s_eff (o_storeN (vs := [(.int .i64 0), (.int .i64 0), (.slice none 0 0)]) (c' := #[(.int .i64 0), (.int .i64 0), (.slice none 0 0)]) ti36 e38_2 rfl rfl rfl (by intro u hu; simp only [List.mem_cons, List.not_mem_nil, or_false] at hu; rcases hu with rfl | rfl | rfl <;> first | rfl) (by simp) (by kernel_rfl) (hH42.front 2 rfl) fun w137 hH138 => ?_)
      refine s_op (o_assign (v := (.bool false)) rfl ?_)
      refine s_nil ?_
      refine t_norm (hK136 _ _ ?_)
      refine wp_ret ?_
      refine t_ret (c_retC2 Tryz.results66 e38_2 (run_loadVarN (cs := [(.int .i64 0), (.int .i64 0), (.slice none 0 0)]) Tryz.underlying36 rfl ti36 hH138 (seg_sub 0 rfl) (CellsAt.one rfl)) (x := (.bool false)) rfl ?_)
      have hge_ := goS_end hgo (by first | exact .inr (.inl (by omega)) | exact .inr (.inr (by omega)) | exact .inl (by simpa using h46))
      have hE_ := readP_no (s := s) (by rw [hge_]; first | exact .inr (.inl (by simpa using h7)) | exact .inr (.inr h7) | exact .inr (.inl (by simpa using h46)) | exact .inr (.inr h46))
      have q139 : (readP s).2.1 = 0 := by rw [hE_]
      have q140 : (readP s).2.2.1 = 0 := by rw [hE_]
      have q141 : (readP s).2.2.2 = ([] : List Cel) := by rw [hE_]
      have q142 : (readP s).1 = false := by rw [hE_]
      have hH143 : Has E w137 [[], R] := (Has.nil (hH138.front 3 rfl)).first 2 rfl
      exact ⟨_, _, by rw [q139, q140]; rw [q142], (by rw [q141]; exact (Own.nil 70 2)), hH143⟩
end Go.Q
namespace Go.Q
open Go.Proofs
set_option linter.unusedVariables false
set_option maxRecDepth 100000
attribute [local irreducible] wpList OK Code.wp
set_option maxHeartbeats 4000000 in
theorem tstore_c {E w : World} {R sg : List Hp} {pb db tb : Nat} {d : Dv} {n : Int} (hH : Has E w [sg, [Hp.one pb (.cells #[(.bool d.p.off), (.bool d.p.armed), (.int .i64 d.p.left), (.int .i64 d.p.uses)] 101 (0, 0))], [Hp.one tb (.cells #[(.pointer (some ⟨db, 0, none⟩)), (.int .i64 n)] 98 (0, 0))], R]) (hd : DevAt pb sg db d.la d.lo) {k : Nat} (hf : Few d.p k) (hk : k ≤ 850000) (hlo : d.lo = []) (h4 : d.la.length ≤ 4096) (hg : CellsAt R 1 0 nibV) {a : Pg} (hin : PgIn R a) :
    Calls Tryz.prog 56 #[(.pointer (some ⟨tb, 0, none⟩)), (.agg #[(.int .i64 a.1), (.int .i64 a.2.1), a.2.2.1])] w fun e w' => ∃ sg', e = .returned (.int .i64 (st1 d n a).1) ∧ DevAt pb sg' db (st1 d n a).2.la (st1 d n a).2.lo ∧ Has E w' [sg', [Hp.one pb (.cells #[(.bool ((st1 d n a).2).p.off), (.bool ((st1 d n a).2).p.armed), (.int .i64 ((st1 d n a).2).p.left), (.int .i64 ((st1 d n a).2).p.uses)] 101 (0, 0))], [Hp.one tb (.cells #[(.pointer (some ⟨db, 0, none⟩)), (.int .i64 n)] 98 (0, 0))], R] := by
  have hcn_ := Sl.le hin
  refine c_enter (args := [(.pointer (some ⟨tb, 0, none⟩)), (.agg #[(.int .i64 a.1), (.int .i64 a.2.1), a.2.2.1])]) Tryz.func56 rfl Tryz.ntmps56 (by simp) ?_
  refine wp_seq_k fun K1 hK1 => ?_
  refine c_region ?_
  refine s_op (o_box (cs := #[(.int .i64 a.1), (.int .i64 a.2.1), a.2.2.1]) rfl rfl hH fun b2 w3 hH4 => ?_)
  refine s_op (o_assign (v := (.int .i64 0)) rfl ?_)
  refine s_nil ?_
  refine t_norm (hK1 _ _ ?_)
  refine wp_seq_k fun K5 hK5 => ?_
  refine c_region ?_
  refine s_op (o_loadN (cs := [(.int .i64 a.1), (.int .i64 a.2.1), a.2.2.1]) Tryz.underlying36 rfl ti36 rfl hH4 (seg_sub 0 rfl) (CellsAt.one rfl) ?_)
  refine s_op (o_callf (vs := #[(.agg #[(.int .i64 a.1), (.int .i64 a.2.1), a.2.2.1])]) ca96 rfl (args1 rfl) (plaid_c (no := a.1) (gsn := a.2.1) (l := a.2.2.2) hH4.all (hin.mono (seg_sub 4 rfl)) (hg.mono (seg_sub 4 rfl))) ?_)
  rintro _ w8 ⟨rfl, hX6⟩
  refine ⟨_, rfl, ?_⟩
  have hH7 := hX6.of_all
  have hll_ := laidP_le a.1 a.2.1 a.2.2.2
  refine s_op (o_assign (v := (S (laidP a.1 a.2.1 a.2.2.2))) rfl ?_)
  refine s_nil ?_
  refine t_norm (hK5 _ _ ?_)
  refine wp_seq_k fun K9 hK9 => ?_
  refine wp_seq_k fun K10 hK10 => ?_
  refine Rest.region mixed (by kernel_rfl) ?_
  have hH11 : Has E { w8 with drawn := w8.drawn + 1 } [[Hp.one b2 (.cells #[(.int .i64 a.1), (.int .i64 a.2.1), a.2.2.1] 36 (0, 0))], sg, [Hp.one pb (.cells #[(.bool d.p.off), (.bool d.p.armed), (.int .i64 d.p.left), (.int .i64 d.p.uses)] 101 (0, 0))], [Hp.one tb (.cells #[(.pointer (some ⟨db, 0, none⟩)), (.int .i64 n)] 98 (0, 0))], R] := Has0.drew hH7 _
  refine r_op 0 rfl (by kernel_rfl) (o_move (v := (S (laidP a.1 a.2.1 a.2.2.2))) rfl ?_)
  refine r_op 1 rfl (by kernel_rfl) (o_seql (a := (laidP a.1 a.2.1 a.2.2.2)) (b := ([] : List UInt8)) rfl rfl ?_)
  refine r_op 2 rfl (by kernel_rfl) (o_move (v := (.bool (decide ((laidP a.1 a.2.1 a.2.2.2) = ([] : List UInt8))))) rfl ?_)
  refine Rest.phaseA (fun w_ => Has E w_ [[Hp.one b2 (.cells #[(.int .i64 a.1), (.int .i64 a.2.1), a.2.2.1] 36 (0, 0))], [Hp.one tb (.cells #[(.pointer (some ⟨db, 0, none⟩)), (.int .i64 n)] 98 (0, 0))]]) 3 9 6 rfl (by decide) (by kernel_rfl) ?_
  by_cases h12 : (laidP a.1 a.2.1 a.2.2.2) = ([] : List UInt8)
  · -- (laidP a.1 a.2.1 a.2.2.2) = ([] : List UInt8)
    refine a_off (b' := true) 3 rfl (by kernel_rfl) 13 rfl (congrArg Value.bool (decide_eq_true h12)) rfl ?_
    refine a_off (b' := true) 4 rfl (by kernel_rfl) 13 rfl (congrArg Value.bool (decide_eq_true h12)) rfl ?_
    refine a_off (b' := true) 5 rfl (by kernel_rfl) 13 rfl (congrArg Value.bool (decide_eq_true h12)) rfl ?_
    refine a_off (b' := true) 6 rfl (by kernel_rfl) 13 rfl (congrArg Value.bool (decide_eq_true h12)) rfl ?_
    refine a_off (b' := true) 7 rfl (by kernel_rfl) 13 rfl (congrArg Value.bool (decide_eq_true h12)) rfl ?_
    refine a_off (b' := true) 8 rfl (by kernel_rfl) 13 rfl (congrArg Value.bool (decide_eq_true h12)) rfl ?_
    have hH13 : Has E { w8 with drawn := w8.drawn + 1 } [[Hp.one b2 (.cells #[(.int .i64 a.1), (.int .i64 a.2.1), a.2.2.1] 36 (0, 0))], [Hp.one tb (.cells #[(.pointer (some ⟨db, 0, none⟩)), (.int .i64 n)] 98 (0, 0))]] := ((hH11.front 3 rfl).front 1 rfl).first 2 rfl
    refine a_done (by kernel_rfl) hH13 ?_
    refine r_off (b' := true) 9 rfl (by kernel_rfl) 13 rfl (congrArg Value.bool (decide_eq_true h12)) rfl ?_
    refine r_op 10 rfl (by kernel_rfl) (o_pick_t (u := (.bool true)) ((rfl : _ = _).trans (congrArg Value.bool (decide_eq_true h12))) rfl ?_)
    refine Rest.done (by kernel_rfl) ?_
    refine t_norm (hK10 _ _ ?_)
    refine c_true rfl rfl ?_
    refine wp_seq_k fun K14 hK14 => ?_
    refine c_region ?_
    refine s_op (o_assign (v := (.int .i64 1)) rfl ?_)
    refine s_nil ?_
    refine t_norm (hK14 _ _ ?_)
    refine wp_ret ?_
    refine t_ret (c_ret1 Tryz.results56  (v := (.int .i64 1)) rfl ?_)
    have hH15 : Has E { w8 with drawn := w8.drawn + 1 } [sg, [Hp.one pb (.cells #[(.bool d.p.off), (.bool d.p.armed), (.int .i64 d.p.left), (.int .i64 d.p.uses)] 101 (0, 0))], [Hp.one tb (.cells #[(.pointer (some ⟨db, 0, none⟩)), (.int .i64 n)] 98 (0, 0))], R] := ((((hH11.front 4 rfl).front 4 rfl).front 4 rfl).front 4 rfl).first 4 rfl
    have hE_ : (st1 d n a) = (1, d) := if_pos (.inl h12)
    exact ⟨_, by rw [hE_], by rw [hE_]; exact hd, by rw [hE_]; exact hH15⟩
  · -- not: (laidP a.1 a.2.1 a.2.2.2) = ([] : List UInt8)
    refine a_on 3 rfl (by kernel_rfl) 13 rfl (congrArg Value.bool (decide_eq_false h12)) (fun w_ h_ => o_fieldAddr (k := 0) (fun _ => by kernel_rfl) rfl ⟨rfl, rfl⟩) ?_
    refine a_on 4 rfl (by kernel_rfl) 13 rfl (congrArg Value.bool (decide_eq_false h12)) (fun w_ h_ => o_load1 (v := (.int .i64 a.1)) Tryz.underlying3 rfl rfl h_ (seg_sub 0 rfl) (CellsAt.one rfl) ⟨rfl, rfl⟩) ?_
    refine a_on 5 rfl (by kernel_rfl) 13 rfl (congrArg Value.bool (decide_eq_false h12)) (fun w_ h_ => o_move (v := (.pointer (some ⟨tb, 0, none⟩))) rfl ⟨rfl, rfl⟩) ?_
    refine a_on 6 rfl (by kernel_rfl) 13 rfl (congrArg Value.bool (decide_eq_false h12)) (fun w_ h_ => o_nilCheck rfl ⟨rfl, rfl⟩) ?_
    refine a_on 7 rfl (by kernel_rfl) 13 rfl (congrArg Value.bool (decide_eq_false h12)) (fun w_ h_ => o_fieldAddr (k := 1) (fun _ => by kernel_rfl) rfl ⟨rfl, rfl⟩) ?_
    refine a_on 8 rfl (by kernel_rfl) 13 rfl (congrArg Value.bool (decide_eq_false h12)) (fun w_ h_ => o_load1 (v := (.int .i64 n)) Tryz.underlying3 rfl rfl h_ (seg_sub 1 rfl) (CellsAt.one rfl) ⟨rfl, rfl⟩) ?_
    have hH16 : Has E { w8 with drawn := w8.drawn + 1 } [[Hp.one b2 (.cells #[(.int .i64 a.1), (.int .i64 a.2.1), a.2.2.1] 36 (0, 0))], [Hp.one tb (.cells #[(.pointer (some ⟨db, 0, none⟩)), (.int .i64 n)] 98 (0, 0))]] := ((hH11.front 3 rfl).front 1 rfl).first 2 rfl
    refine a_done (by kernel_rfl) hH16 ?_
    refine r_on 9 rfl (by kernel_rfl) 13 rfl (congrArg Value.bool (decide_eq_false h12)) (o_geq (a := a.1) (b := n) rfl rfl ?_)
    refine r_op 10 rfl (by kernel_rfl) (o_pick_f (u := (.bool (decide (n ≤ a.1)))) ((rfl : _ = _).trans (congrArg Value.bool (decide_eq_false h12))) rfl ?_)
    refine Rest.done (by kernel_rfl) ?_
    refine t_norm (hK10 _ _ ?_)
    refine c_cond rfl (fun h17 => ?_) (fun h17 => ?_)
    · -- n ≤ a.1
      refine wp_seq_k fun K18 hK18 => ?_
      refine c_region ?_
      refine s_op (o_assign (v := (.int .i64 1)) rfl ?_)
      refine s_nil ?_
      refine t_norm (hK18 _ _ ?_)
      refine wp_ret ?_
      refine t_ret (c_ret1 Tryz.results56  (v := (.int .i64 1)) rfl ?_)
      have hH19 : Has E { w8 with drawn := w8.drawn + 1 } [sg, [Hp.one pb (.cells #[(.bool d.p.off), (.bool d.p.armed), (.int .i64 d.p.left), (.int .i64 d.p.uses)] 101 (0, 0))], [Hp.one tb (.cells #[(.pointer (some ⟨db, 0, none⟩)), (.int .i64 n)] 98 (0, 0))], R] := ((((hH11.front 4 rfl).front 4 rfl).front 4 rfl).front 4 rfl).first 4 rfl
      have hE_ : (st1 d n a) = (1, d) := if_pos (.inr h17)
      exact ⟨_, by rw [hE_], by rw [hE_]; exact hd, by rw [hE_]; exact hH19⟩
    · -- not: n ≤ a.1
      have hR_ := lpg_right (a := a) h12
      have hL_ : (laidP a.1 a.2.1 a.2.2.2).length = 256 := laidP_len hR_
      obtain ⟨hn1_, hn2_⟩ := page_no hR_
      refine wp_skip ?_
      refine t_norm (hK9 _ _ ?_)
      refine wp_seq_k fun K20 hK20 => ?_
      refine wp_seq_k fun K21 hK21 => ?_
      refine c_region ?_
      refine s_op (o_move (v := (.pointer (some ⟨tb, 0, none⟩))) rfl ?_)
      refine s_op (o_move (v := (S (laidP a.1 a.2.1 a.2.2.2))) rfl ?_)
      refine s_op (o_callf (vs := #[(.pointer (some ⟨tb, 0, none⟩)), (.int .i64 1), (S (laidP a.1 a.2.1 a.2.2.2))]) ca97 rfl (args3 rfl rfl rfl) (tset_c (d := d) (n := n) (((hH11.front 3 rfl).front 3 rfl).front 3 rfl).all3 hd hf (by omega) (by rw [hlo]; exact LoOk.nil _) h4 (x := 1) (by first | exact ⟨by omega, by omega⟩ | (unfold plc; exact ⟨by omega, by omega⟩)) (s := (laidP a.1 a.2.1 a.2.2.2)) hL_) ?_)
      rintro _ w26 ⟨sg22, rfl, hd23, hX24⟩
      refine ⟨_, rfl, ?_⟩
      have hH25 : Has E w26 [sg22, [Hp.one pb (.cells #[(.bool ((wrsy d (setT 1 (laidP a.1 a.2.1 a.2.2.2))).2).p.off), (.bool ((wrsy d (setT 1 (laidP a.1 a.2.1 a.2.2.2))).2).p.armed), (.int .i64 ((wrsy d (setT 1 (laidP a.1 a.2.1 a.2.2.2))).2).p.left), (.int .i64 ((wrsy d (setT 1 (laidP a.1 a.2.1 a.2.2.2))).2).p.uses)] 101 (0, 0))], [Hp.one tb (.cells #[(.pointer (some ⟨db, 0, none⟩)), (.int .i64 n)] 98 (0, 0))], [Hp.one b2 (.cells #[(.int .i64 a.1), (.int .i64 a.2.1), a.2.2.1] 36 (0, 0))], R] := hX24.of_all3
      refine s_op (o_assign (v := (.int .i64 ((wrsy d (setT 1 (laidP a.1 a.2.1 a.2.2.2))).1))) rfl ?_)
      refine s_nil ?_
      refine t_norm (hK21 _ _ ?_)
      refine wp_seq_k fun K27 hK27 => ?_
      refine c_region ?_
      refine s_op (o_move (v := (.int .i64 ((wrsy d (setT 1 (laidP a.1 a.2.1 a.2.2.2))).1))) rfl ?_)
      refine s_op (o_neq (a := (wrsy d (setT 1 (laidP a.1 a.2.1 a.2.2.2))).1) (b := 0) rfl rfl ?_)
      refine s_nil ?_
      refine t_norm (hK27 _ _ ?_)
      refine c_cond rfl (fun h28 => ?_) (fun h28 => ?_)
      · -- (wrsy d (setT 1 (laidP a.1 a.2.1 a.2.2.2))).1 ≠ 0
        refine wp_seq_k fun K29 hK29 => ?_
        refine c_region ?_
        refine s_op (o_move (v := (.int .i64 ((wrsy d (setT 1 (laidP a.1 a.2.1 a.2.2.2))).1))) rfl ?_)
        refine s_op (o_assign (v := (.int .i64 ((wrsy d (setT 1 (laidP a.1 a.2.1 a.2.2.2))).1))) rfl ?_)
        refine s_nil ?_
        refine t_norm (hK29 _ _ ?_)
        refine wp_ret ?_
        refine t_ret (c_ret1 Tryz.results56  (v := (.int .i64 ((wrsy d (setT 1 (laidP a.1 a.2.1 a.2.2.2))).1))) rfl ?_)
        have hH30 : Has E w26 [sg22, [Hp.one pb (.cells #[(.bool ((wrsy d (setT 1 (laidP a.1 a.2.1 a.2.2.2))).2).p.off), (.bool ((wrsy d (setT 1 (laidP a.1 a.2.1 a.2.2.2))).2).p.armed), (.int .i64 ((wrsy d (setT 1 (laidP a.1 a.2.1 a.2.2.2))).2).p.left), (.int .i64 ((wrsy d (setT 1 (laidP a.1 a.2.1 a.2.2.2))).2).p.uses)] 101 (0, 0))], [Hp.one tb (.cells #[(.pointer (some ⟨db, 0, none⟩)), (.int .i64 n)] 98 (0, 0))], R] := ((((hH25.front 4 rfl).front 3 rfl).front 3 rfl).front 3 rfl).first 4 rfl
        have hE_ : (st1 d n a) = ((wrsy d (setT 1 (laidP a.1 a.2.1 a.2.2.2))).1, (wrsy d (setT 1 (laidP a.1 a.2.1 a.2.2.2))).2) := by rw [show (st1 d n a) = runs d (stG a.1 (laidP a.1 a.2.1 a.2.2.2)) from if_neg (fun g_ => g_.elim h12 h17)]; show runs d [setT 1 (laidP a.1 a.2.1 a.2.2.2), mrkG [a.1 + 1], setT (plc a.1) (laidP a.1 a.2.1 a.2.2.2), mrkG []] = _; rw [runs_stop h28]
        exact ⟨_, by rw [hE_], by rw [hE_]; exact hd23, by rw [hE_]; exact hH30⟩
      · -- not: (wrsy d (setT 1 (laidP a.1 a.2.1 a.2.2.2))).1 ≠ 0
        refine wp_skip ?_
        refine t_norm (hK20 _ _ ?_)
        refine wp_seq_k fun K31 hK31 => ?_
        refine wp_seq_k fun K32 hK32 => ?_
        refine c_region ?_
        refine s_op (o_move (v := (.pointer (some ⟨tb, 0, none⟩))) rfl ?_)
        refine s_op (o_fieldAddr (k := 0) (fun _ => by kernel_rfl) rfl ?_)
        refine s_op (o_load1 (v := (.int .i64 a.1)) Tryz.underlying3 rfl rfl hH25 (seg_sub 3 rfl) (CellsAt.one rfl) ?_)
        refine s_op (o_add (a := a.1) (b := 1) rfl rfl (w64 (by omega) (by omega)) ?_)
        refine s_op (o_buildSlice (ps := #[(0, (.int .i64 (a.1 + 1)))]) (cells := #[(.int .i64 (a.1 + 1))]) Tryz.underlying40 ti3 (by decide) (parts1 rfl) (by kernel_rfl) hH25 fun b33 w34 hH35 => ?_)
        refine s_op (o_callf (vs := #[(.pointer (some ⟨tb, 0, none⟩)), (.slice (some ⟨b33, 0, none⟩) 1 1)]) ca98 rfl (args2 rfl rfl) (tmark_c (d := (wrsy d (setT 1 (laidP a.1 a.2.1 a.2.2.2))).2) (n := n) (((hH35.front 3 rfl).front 3 rfl).front 3 rfl).all3 hd23 ((few_wrsy hf).mono (show _ ≤ k + 5 from Nat.le_refl _)) (by omega) (by rw [wrsy_zero (Classical.not_not.1 h28)]; exact LoOk.nil _) (by simp only [wrsy_len]; exact h4) (l := [a.1 + 1]) ((sl_lit (f := iV) (l := [a.1 + 1]) rfl rfl (by simp)).mono (seg_sub 0 rfl)) (by simp) (by rw [put_len ⟨by omega, by omega⟩]; decide)) ?_)
        rintro _ w40 ⟨sg36, rfl, hd37, hX38⟩
        refine ⟨_, rfl, ?_⟩
        have hH39 : Has E w40 [sg36, [Hp.one pb (.cells #[(.bool ((wrsy ((wrsy d (setT 1 (laidP a.1 a.2.1 a.2.2.2))).2) (mrkG [a.1 + 1])).2).p.off), (.bool ((wrsy ((wrsy d (setT 1 (laidP a.1 a.2.1 a.2.2.2))).2) (mrkG [a.1 + 1])).2).p.armed), (.int .i64 ((wrsy ((wrsy d (setT 1 (laidP a.1 a.2.1 a.2.2.2))).2) (mrkG [a.1 + 1])).2).p.left), (.int .i64 ((wrsy ((wrsy d (setT 1 (laidP a.1 a.2.1 a.2.2.2))).2) (mrkG [a.1 + 1])).2).p.uses)] 101 (0, 0))], [Hp.one tb (.cells #[(.pointer (some ⟨db, 0, none⟩)), (.int .i64 n)] 98 (0, 0))], [Hp.one b33 (.cells #[(.int .i64 (a.1 + 1))] 3 (0, 0))], [Hp.one b2 (.cells #[(.int .i64 a.1), (.int .i64 a.2.1), a.2.2.1] 36 (0, 0))], R] := hX38.of_all3
        refine s_op (o_assign (v := (.int .i64 ((wrsy ((wrsy d (setT 1 (laidP a.1 a.2.1 a.2.2.2))).2) (mrkG [a.1 + 1])).1))) rfl ?_)
        refine s_nil ?_
        refine t_norm (hK32 _ _ ?_)
        refine wp_seq_k fun K41 hK41 => ?_
        refine c_region ?_
        refine s_op (o_move (v := (.int .i64 ((wrsy ((wrsy d (setT 1 (laidP a.1 a.2.1 a.2.2.2))).2) (mrkG [a.1 + 1])).1))) rfl ?_)
        refine s_op (o_neq (a := (wrsy ((wrsy d (setT 1 (laidP a.1 a.2.1 a.2.2.2))).2) (mrkG [a.1 + 1])).1) (b := 0) rfl rfl ?_)
        refine s_nil ?_
        refine t_norm (hK41 _ _ ?_)
        refine c_cond rfl (fun h42 => ?_) (fun h42 => ?_)
        · -- (wrsy ((wrsy d (setT 1 (laidP a.1 a.2.1 a.2.2.2))).2) (mrkG [a.1 + 1])).1 ≠ 0
          refine wp_seq_k fun K43 hK43 => ?_
          refine c_region ?_
          refine s_op (o_move (v := (.int .i64 ((wrsy ((wrsy d (setT 1 (laidP a.1 a.2.1 a.2.2.2))).2) (mrkG [a.1 + 1])).1))) rfl ?_)
          refine s_op (o_assign (v := (.int .i64 ((wrsy ((wrsy d (setT 1 (laidP a.1 a.2.1 a.2.2.2))).2) (mrkG [a.1 + 1])).1))) rfl ?_)
          refine s_nil ?_
          refine t_norm (hK43 _ _ ?_)
          refine wp_ret ?_
          refine t_ret (c_ret1 Tryz.results56  (v := (.int .i64 ((wrsy ((wrsy d (setT 1 (laidP a.1 a.2.1 a.2.2.2))).2) (mrkG [a.1 + 1])).1))) rfl ?_)
          have hH44 : Has E w40 [sg36, [Hp.one pb (.cells #[(.bool ((wrsy ((wrsy d (setT 1 (laidP a.1 a.2.1 a.2.2.2))).2) (mrkG [a.1 + 1])).2).p.off), (.bool ((wrsy ((wrsy d (setT 1 (laidP a.1 a.2.1 a.2.2.2))).2) (mrkG [a.1 + 1])).2).p.armed), (.int .i64 ((wrsy ((wrsy d (setT 1 (laidP a.1 a.2.1 a.2.2.2))).2) (mrkG [a.1 + 1])).2).p.left), (.int .i64 ((wrsy ((wrsy d (setT 1 (laidP a.1 a.2.1 a.2.2.2))).2) (mrkG [a.1 + 1])).2).p.uses)] 101 (0, 0))], [Hp.one tb (.cells #[(.pointer (some ⟨db, 0, none⟩)), (.int .i64 n)] 98 (0, 0))], R] := ((((hH39.front 5 rfl).front 3 rfl).front 3 rfl).front 3 rfl).first 4 rfl
          have hE_ : (st1 d n a) = ((wrsy ((wrsy d (setT 1 (laidP a.1 a.2.1 a.2.2.2))).2) (mrkG [a.1 + 1])).1, (wrsy ((wrsy d (setT 1 (laidP a.1 a.2.1 a.2.2.2))).2) (mrkG [a.1 + 1])).2) := by rw [show (st1 d n a) = runs d (stG a.1 (laidP a.1 a.2.1 a.2.2.2)) from if_neg (fun g_ => g_.elim h12 h17)]; show runs d [setT 1 (laidP a.1 a.2.1 a.2.2.2), mrkG [a.1 + 1], setT (plc a.1) (laidP a.1 a.2.1 a.2.2.2), mrkG []] = _; rw [runs_go (Classical.not_not.1 h28), runs_stop h42]
          exact ⟨_, by rw [hE_], by rw [hE_]; exact hd37, by rw [hE_]; exact hH44⟩
        · -- not: (wrsy ((wrsy d (setT 1 (laidP a.1 a.2.1 a.2.2.2))).2) (mrkG [a.1 + 1])).1 ≠ 0
          refine wp_skip ?_
          refine t_norm (hK31 _ _ ?_)
          refine wp_seq_k fun K45 hK45 => ?_
          refine wp_seq_k fun K46 hK46 => ?_
          refine c_region ?_
          refine s_op (o_move (v := (.pointer (some ⟨tb, 0, none⟩))) rfl ?_)
          refine s_op (o_fieldAddr (k := 0) (fun _ => by kernel_rfl) rfl ?_)
          refine s_op (o_load1 (v := (.int .i64 a.1)) Tryz.underlying3 rfl rfl hH39 (seg_sub 4 rfl) (CellsAt.one rfl) ?_)
          refine s_op (o_callf (vs := #[(.int .i64 a.1)]) ca64 rfl (args1 rfl) (place_c hH39.all (x := a.1) ⟨by omega, by omega⟩) ?_)
          rintro _ w49 ⟨rfl, hX47⟩
          refine ⟨_, rfl, ?_⟩
          have hH48 := hX47.of_all
          refine s_op (o_move (v := (S (laidP a.1 a.2.1 a.2.2.2))) rfl ?_)
          refine s_op (o_callf (vs := #[(.pointer (some ⟨tb, 0, none⟩)), (.int .i64 (plc a.1)), (S (laidP a.1 a.2.1 a.2.2.2))]) ca97 rfl (args3 rfl rfl rfl) (tset_c (d := (wrsy ((wrsy d (setT 1 (laidP a.1 a.2.1 a.2.2.2))).2) (mrkG [a.1 + 1])).2) (n := n) (((hH48.front 2 rfl).front 2 rfl).front 2 rfl).all3 hd37 ((few_wrsy ((few_wrsy hf).mono (show _ ≤ k + 5 from Nat.le_refl _))).mono (show _ ≤ k + 5 + 2 from Nat.le_refl _)) (by omega) (by rw [wrsy_zero (Classical.not_not.1 h42)]; exact LoOk.nil _) (by simp only [wrsy_len]; exact h4) (x := plc a.1) (by first | exact ⟨by omega, by omega⟩ | (unfold plc; exact ⟨by omega, by omega⟩)) (s := (laidP a.1 a.2.1 a.2.2.2)) hL_) ?_)
          rintro _ w54 ⟨sg50, rfl, hd51, hX52⟩
          refine ⟨_, rfl, ?_⟩
          have hH53 : Has E w54 [sg50, [Hp.one pb (.cells #[(.bool ((wrsy ((wrsy ((wrsy d (setT 1 (laidP a.1 a.2.1 a.2.2.2))).2) (mrkG [a.1 + 1])).2) (setT (plc a.1) (laidP a.1 a.2.1 a.2.2.2))).2).p.off), (.bool ((wrsy ((wrsy ((wrsy d (setT 1 (laidP a.1 a.2.1 a.2.2.2))).2) (mrkG [a.1 + 1])).2) (setT (plc a.1) (laidP a.1 a.2.1 a.2.2.2))).2).p.armed), (.int .i64 ((wrsy ((wrsy ((wrsy d (setT 1 (laidP a.1 a.2.1 a.2.2.2))).2) (mrkG [a.1 + 1])).2) (setT (plc a.1) (laidP a.1 a.2.1 a.2.2.2))).2).p.left), (.int .i64 ((wrsy ((wrsy ((wrsy d (setT 1 (laidP a.1 a.2.1 a.2.2.2))).2) (mrkG [a.1 + 1])).2) (setT (plc a.1) (laidP a.1 a.2.1 a.2.2.2))).2).p.uses)] 101 (0, 0))], [Hp.one tb (.cells #[(.pointer (some ⟨db, 0, none⟩)), (.int .i64 n)] 98 (0, 0))], [Hp.one b33 (.cells #[(.int .i64 (a.1 + 1))] 3 (0, 0))], [Hp.one b2 (.cells #[(.int .i64 a.1), (.int .i64 a.2.1), a.2.2.1] 36 (0, 0))], R] := hX52.of_all3
          refine s_op (o_assign (v := (.int .i64 ((wrsy ((wrsy ((wrsy d (setT 1 (laidP a.1 a.2.1 a.2.2.2))).2) (mrkG [a.1 + 1])).2) (setT (plc a.1) (laidP a.1 a.2.1 a.2.2.2))).1))) rfl ?_)
          refine s_nil ?_
          refine t_norm (hK46 _ _ ?_)
          refine wp_seq_k fun K55 hK55 => ?_
          refine c_region ?_
          refine s_op (o_move (v := (.int .i64 ((wrsy ((wrsy ((wrsy d (setT 1 (laidP a.1 a.2.1 a.2.2.2))).2) (mrkG [a.1 + 1])).2) (setT (plc a.1) (laidP a.1 a.2.1 a.2.2.2))).1))) rfl ?_)
          refine s_op (o_neq (a := (wrsy ((wrsy ((wrsy d (setT 1 (laidP a.1 a.2.1 a.2.2.2))).2) (mrkG [a.1 + 1])).2) (setT (plc a.1) (laidP a.1 a.2.1 a.2.2.2))).1) (b := 0) rfl rfl ?_)
          refine s_nil ?_
          refine t_norm (hK55 _ _ ?_)
          refine c_cond rfl (fun h56 => ?_) (fun h56 => ?_)
          · -- (wrsy ((wrsy ((wrsy d (setT 1 (laidP a.1 a.2.1 a.2.2.2))).2) (mrkG [a.1 + 1])).2) (setT (plc a.1) (laidP a.1 a.2.1 a.2.2.2))).1 ≠ 0
            refine wp_seq_k fun K57 hK57 => ?_
            refine c_region ?_
            refine s_op (o_move (v := (.int .i64 ((wrsy ((wrsy ((wrsy d (setT 1 (laidP a.1 a.2.1 a.2.2.2))).2) (mrkG [a.1 + 1])).2) (setT (plc a.1) (laidP a.1 a.2.1 a.2.2.2))).1))) rfl ?_)
            refine s_op (o_assign (v := (.int .i64 ((wrsy ((wrsy ((wrsy d (setT 1 (laidP a.1 a.2.1 a.2.2.2))).2) (mrkG [a.1 + 1])).2) (setT (plc a.1) (laidP a.1 a.2.1 a.2.2.2))).1))) rfl ?_)
            refine s_nil ?_
            refine t_norm (hK57 _ _ ?_)
            refine wp_ret ?_
            refine t_ret (c_ret1 Tryz.results56  (v := (.int .i64 ((wrsy ((wrsy ((wrsy d (setT 1 (laidP a.1 a.2.1 a.2.2.2))).2) (mrkG [a.1 + 1])).2) (setT (plc a.1) (laidP a.1 a.2.1 a.2.2.2))).1))) rfl ?_)
            have hH58 : Has E w54 [sg50, [Hp.one pb (.cells #[(.bool ((wrsy ((wrsy ((wrsy d (setT 1 (laidP a.1 a.2.1 a.2.2.2))).2) (mrkG [a.1 + 1])).2) (setT (plc a.1) (laidP a.1 a.2.1 a.2.2.2))).2).p.off), (.bool ((wrsy ((wrsy ((wrsy d (setT 1 (laidP a.1 a.2.1 a.2.2.2))).2) (mrkG [a.1 + 1])).2) (setT (plc a.1) (laidP a.1 a.2.1 a.2.2.2))).2).p.armed), (.int .i64 ((wrsy ((wrsy ((wrsy d (setT 1 (laidP a.1 a.2.1 a.2.2.2))).2) (mrkG [a.1 + 1])).2) (setT (plc a.1) (laidP a.1 a.2.1 a.2.2.2))).2).p.left), (.int .i64 ((wrsy ((wrsy ((wrsy d (setT 1 (laidP a.1 a.2.1 a.2.2.2))).2) (mrkG [a.1 + 1])).2) (setT (plc a.1) (laidP a.1 a.2.1 a.2.2.2))).2).p.uses)] 101 (0, 0))], [Hp.one tb (.cells #[(.pointer (some ⟨db, 0, none⟩)), (.int .i64 n)] 98 (0, 0))], R] := ((((hH53.front 5 rfl).front 3 rfl).front 3 rfl).front 3 rfl).first 4 rfl
            have hE_ : (st1 d n a) = ((wrsy ((wrsy ((wrsy d (setT 1 (laidP a.1 a.2.1 a.2.2.2))).2) (mrkG [a.1 + 1])).2) (setT (plc a.1) (laidP a.1 a.2.1 a.2.2.2))).1, (wrsy ((wrsy ((wrsy d (setT 1 (laidP a.1 a.2.1 a.2.2.2))).2) (mrkG [a.1 + 1])).2) (setT (plc a.1) (laidP a.1 a.2.1 a.2.2.2))).2) := by rw [show (st1 d n a) = runs d (stG a.1 (laidP a.1 a.2.1 a.2.2.2)) from if_neg (fun g_ => g_.elim h12 h17)]; show runs d [setT 1 (laidP a.1 a.2.1 a.2.2.2), mrkG [a.1 + 1], setT (plc a.1) (laidP a.1 a.2.1 a.2.2.2), mrkG []] = _; rw [runs_go (Classical.not_not.1 h28), runs_go (Classical.not_not.1 h42), runs_stop h56]
            exact ⟨_, by rw [hE_], by rw [hE_]; exact hd51, by rw [hE_]; exact hH58⟩
          · -- not: (wrsy ((wrsy ((wrsy d (setT 1 (laidP a.1 a.2.1 a.2.2.2))).2) (mrkG [a.1 + 1])).2) (setT (plc a.1) (laidP a.1 a.2.1 a.2.2.2))).1 ≠ 0
            refine wp_skip ?_
            refine t_norm (hK45 _ _ ?_)
            refine wp_seq_k fun K59 hK59 => ?_
            refine c_region ?_
            refine s_op (o_move (v := (.pointer (some ⟨tb, 0, none⟩))) rfl ?_)
            refine s_op (o_callf (vs := #[(.pointer (some ⟨tb, 0, none⟩)), (.slice none 0 0)]) ca98 rfl (args2 rfl rfl) (tmark_c (d := (wrsy ((wrsy ((wrsy d (setT 1 (laidP a.1 a.2.1 a.2.2.2))).2) (mrkG [a.1 + 1])).2) (setT (plc a.1) (laidP a.1 a.2.1 a.2.2.2))).2) (n := n) (((hH53.front 2 rfl).front 2 rfl).front 2 rfl).all3 hd51 ((few_wrsy ((few_wrsy ((few_wrsy hf).mono (show _ ≤ k + 5 from Nat.le_refl _))).mono (show _ ≤ k + 5 + 2 from Nat.le_refl _))).mono (show _ ≤ k + 5 + 2 + 5 from Nat.le_refl _)) (by omega) (by rw [wrsy_zero (Classical.not_not.1 h56)]; exact LoOk.nil _) (by simp only [wrsy_len]; exact h4) (l := ([] : List Int)) (sl_nil 1) (by simp) (by rw [put_nil]; decide)) ?_)
            rintro _ w65 ⟨sg60, rfl, hd61, hX62⟩
            refine ⟨_, rfl, ?_⟩
            have hH63 : Has E w65 [sg60, [Hp.one pb (.cells #[(.bool ((wrsy ((wrsy ((wrsy ((wrsy d (setT 1 (laidP a.1 a.2.1 a.2.2.2))).2) (mrkG [a.1 + 1])).2) (setT (plc a.1) (laidP a.1 a.2.1 a.2.2.2))).2) (mrkG [])).2).p.off), (.bool ((wrsy ((wrsy ((wrsy ((wrsy d (setT 1 (laidP a.1 a.2.1 a.2.2.2))).2) (mrkG [a.1 + 1])).2) (setT (plc a.1) (laidP a.1 a.2.1 a.2.2.2))).2) (mrkG [])).2).p.armed), (.int .i64 ((wrsy ((wrsy ((wrsy ((wrsy d (setT 1 (laidP a.1 a.2.1 a.2.2.2))).2) (mrkG [a.1 + 1])).2) (setT (plc a.1) (laidP a.1 a.2.1 a.2.2.2))).2) (mrkG [])).2).p.left), (.int .i64 ((wrsy ((wrsy ((wrsy ((wrsy d (setT 1 (laidP a.1 a.2.1 a.2.2.2))).2) (mrkG [a.1 + 1])).2) (setT (plc a.1) (laidP a.1 a.2.1 a.2.2.2))).2) (mrkG [])).2).p.uses)] 101 (0, 0))], [Hp.one tb (.cells #[(.pointer (some ⟨db, 0, none⟩)), (.int .i64 n)] 98 (0, 0))], [Hp.one b33 (.cells #[(.int .i64 (a.1 + 1))] 3 (0, 0))], [Hp.one b2 (.cells #[(.int .i64 a.1), (.int .i64 a.2.1), a.2.2.1] 36 (0, 0))], R] := hX62.of_all3
            refine s_op (o_assign (v := (.int .i64 ((wrsy ((wrsy ((wrsy ((wrsy d (setT 1 (laidP a.1 a.2.1 a.2.2.2))).2) (mrkG [a.1 + 1])).2) (setT (plc a.1) (laidP a.1 a.2.1 a.2.2.2))).2) (mrkG [])).1))) rfl ?_)
            refine s_nil ?_
            refine t_norm (hK59 _ _ ?_)
            refine wp_ret ?_
            refine c_ret1 Tryz.results56  (v := (.int .i64 ((wrsy ((wrsy ((wrsy ((wrsy d (setT 1 (laidP a.1 a.2.1 a.2.2.2))).2) (mrkG [a.1 + 1])).2) (setT (plc a.1) (laidP a.1 a.2.1 a.2.2.2))).2) (mrkG [])).1))) rfl ?_
            have hH66 : Has E w65 [sg60, [Hp.one pb (.cells #[(.bool ((wrsy ((wrsy ((wrsy ((wrsy d (setT 1 (laidP a.1 a.2.1 a.2.2.2))).2) (mrkG [a.1 + 1])).2) (setT (plc a.1) (laidP a.1 a.2.1 a.2.2.2))).2) (mrkG [])).2).p.off), (.bool ((wrsy ((wrsy ((wrsy ((wrsy d (setT 1 (laidP a.1 a.2.1 a.2.2.2))).2) (mrkG [a.1 + 1])).2) (setT (plc a.1) (laidP a.1 a.2.1 a.2.2.2))).2) (mrkG [])).2).p.armed), (.int .i64 ((wrsy ((wrsy ((wrsy ((wrsy d (setT 1 (laidP a.1 a.2.1 a.2.2.2))).2) (mrkG [a.1 + 1])).2) (setT (plc a.1) (laidP a.1 a.2.1 a.2.2.2))).2) (mrkG [])).2).p.left), (.int .i64 ((wrsy ((wrsy ((wrsy ((wrsy d (setT 1 (laidP a.1 a.2.1 a.2.2.2))).2) (mrkG [a.1 + 1])).2) (setT (plc a.1) (laidP a.1 a.2.1 a.2.2.2))).2) (mrkG [])).2).p.uses)] 101 (0, 0))], [Hp.one tb (.cells #[(.pointer (some ⟨db, 0, none⟩)), (.int .i64 n)] 98 (0, 0))], R] := ((((hH63.front 5 rfl).front 3 rfl).front 3 rfl).front 3 rfl).first 4 rfl
            have hE_ : (st1 d n a) = ((wrsy ((wrsy ((wrsy ((wrsy d (setT 1 (laidP a.1 a.2.1 a.2.2.2))).2) (mrkG [a.1 + 1])).2) (setT (plc a.1) (laidP a.1 a.2.1 a.2.2.2))).2) (mrkG [])).1, (wrsy ((wrsy ((wrsy ((wrsy d (setT 1 (laidP a.1 a.2.1 a.2.2.2))).2) (mrkG [a.1 + 1])).2) (setT (plc a.1) (laidP a.1 a.2.1 a.2.2.2))).2) (mrkG [])).2) := by rw [show (st1 d n a) = runs d (stG a.1 (laidP a.1 a.2.1 a.2.2.2)) from if_neg (fun g_ => g_.elim h12 h17)]; show runs d [setT 1 (laidP a.1 a.2.1 a.2.2.2), mrkG [a.1 + 1], setT (plc a.1) (laidP a.1 a.2.1 a.2.2.2), mrkG []] = _; rw [runs_go (Classical.not_not.1 h28), runs_go (Classical.not_not.1 h42), runs_go (Classical.not_not.1 h56), runs_last]
            exact ⟨_, by rw [hE_], by rw [hE_]; exact hd61, by rw [hE_]; exact hH66⟩
end Go.Q
namespace Go.Q
open Go.Proofs
set_option linter.unusedVariables false
set_option maxRecDepth 100000
attribute [local irreducible] wpList OK Code.wp
set_option maxHeartbeats 4000000 in
theorem tstoreL_c {E w : World} {R sg : List Hp} {pb db tb : Nat} {d : Dv} {n : Int} (hH : Has E w [sg, [Hp.one pb (.cells #[(.bool d.p.off), (.bool d.p.armed), (.int .i64 d.p.left), (.int .i64 d.p.uses)] 101 (0, 0))], [Hp.one tb (.cells #[(.pointer (some ⟨db, 0, none⟩)), (.int .i64 n)] 98 (0, 0))], R]) (hd : DevAt pb sg db d.la d.lo) {k : Nat} (hf : Few d.p k) (hk : k ≤ 800000) (hlo : d.lo = []) (h4 : d.la.length ≤ 4096) (hg : CellsAt R 1 0 nibV) {v : Value} {l : List Pg} (hv : Sl R 3 v l.length (l.flatMap pgC)) (hok : ∀ a ∈ l, PgIn R a) (hll : l.length ≤ 1000) :
    Calls Tryz.prog 18 #[(.pointer (some ⟨tb, 0, none⟩)), v] w fun e w' => ∃ sg', e = .returned (.int .i64 (stL d n l).1) ∧ DevAt pb sg' db (stL d n l).2.la (stL d n l).2.lo ∧ Has E w' [sg', [Hp.one pb (.cells #[(.bool ((stL d n l).2).p.off), (.bool ((stL d n l).2).p.armed), (.int .i64 ((stL d n l).2).p.left), (.int .i64 ((stL d n l).2).p.uses)] 101 (0, 0))], [Hp.one tb (.cells #[(.pointer (some ⟨db, 0, none⟩)), (.int .i64 n)] 98 (0, 0))], R] := by
  have hn_ := hv.le
  refine c_enter (args := [(.pointer (some ⟨tb, 0, none⟩)), v]) Tryz.func18 rfl Tryz.ntmps18 (by simp) ?_
  refine wp_seq_k fun K1 hK1 => ?_
  refine c_region ?_
  refine s_op (o_assign (v := (.int .i64 0)) rfl ?_)
  refine s_nil ?_
  refine t_norm (hK1 _ _ ?_)
  refine wp_seq_k fun K2 hK2 => ?_
  refine wp_seq_k fun K3 hK3 => ?_
  refine c_region ?_
  refine s_op (o_move (v := (.pointer (some ⟨tb, 0, none⟩))) rfl ?_)
  refine s_op (o_pnil (p := some _) Tryz.underlying25 rfl rfl ?_)
  refine s_nil ?_
  refine t_norm (hK3 _ _ ?_)
  refine c_false rfl rfl ?_
  refine wp_skip ?_
  refine t_norm (hK2 _ _ ?_)
  refine wp_seq_k fun K4 hK4 => ?_
  refine wp_seq_k fun K5 hK5 => ?_
  refine c_region ?_
  refine s_op (o_move (v := v) rfl ?_)
  refine s_op (o_lenS Tryz.underlying31 rfl hv ?_)
  refine s_op (o_move (v := (.int .i64 0)) rfl ?_)
  refine s_nil ?_
  refine t_norm (hK5 _ _ ?_)
  refine wp_block ?_
  let I7 : Nat → (Nat → Value) → World → Prop := fun n__ r__ w__ => ∃ (i : Nat) (dc : Dv) (sgc : List Hp), n__ = l.length - i ∧ Has E w__ [sgc, [Hp.one pb (.cells #[(.bool dc.p.off), (.bool dc.p.armed), (.int .i64 dc.p.left), (.int .i64 dc.p.uses)] 101 (0, 0))], [Hp.one tb (.cells #[(.pointer (some ⟨db, 0, none⟩)), (.int .i64 n)] 98 (0, 0))], R] ∧ (i ≤ l.length) ∧ (DevAt pb sgc db dc.la dc.lo) ∧ (Few dc.p (k + 14 * i)) ∧ (dc.lo = []) ∧ (dc.la.length = d.la.length) ∧ (stL d n l = stL dc n (l.drop i)) ∧ r__ 0 = (.pointer (some ⟨tb, 0, none⟩)) ∧ r__ 1 = v ∧ r__ 9 = (.bool false) ∧ r__ 10 = v ∧ r__ 11 = (.int .i64 ((l.length : Nat) : Int)) ∧ r__ 12 = (.int .i64 (i : Int))
  refine c_loop I7 _ ⟨0, d, sg, rfl, hH, Nat.zero_le _, hd, hf, hlo, rfl, rfl, rfl, rfl, rfl, rfl, rfl, rfl⟩ ?_
  rintro n_ r10 w8 ⟨i, dc, sgc, rfl, hH9, hi, hdc, hfc, hlc, hnc, hst, e6_0, e6_1, e6_9, e6_10, e6_11, e6_12⟩
  refine wp_seq_k fun K11 hK11 => ?_
  refine c_region ?_
  refine s_op (o_lss (a := (i : Int)) (b := ((l.length : Nat) : Int)) e6_12 e6_11 ?_)
  refine s_nil ?_
  refine t_norm (hK11 _ _ ?_)
  refine wp_seq_k fun K12 hK12 => ?_
  refine c_cond rfl (fun h13 => ?_) (fun h13 => ?_)
  · -- (i : Int) < ((l.length : Nat) : Int)
    refine wp_skip ?_
    refine t_norm (hK12 _ _ ?_)
    refine wp_seq_k fun K14 hK14 => ?_
    refine wp_block ?_
    refine wp_seq_k fun K15 hK15 => ?_
    refine c_region ?_
    obtain ⟨x19, hx20⟩ : ∃ x_, l[((i : Int)).toNat]? = some x_ := get_some (by omega)
    refine s_op (o_indexF pgC_len Tryz.underlying31 ti36 e6_10 hv rfl e6_12 (by omega) hx20 fun b16 o17 hc18 => ?_)
    refine s_op (o_loadN (cs := [(.int .i64 x19.1), (.int .i64 x19.2.1), x19.2.2.1]) Tryz.underlying36 rfl ti36 rfl hH9 (seg_sub 3 rfl) hc18 ?_)
    refine s_op (o_alloc (cs := #[(.int .i64 0), (.int .i64 0), (.slice none 0 0)]) ti36 rfl hH9 fun b21 w22 hH23 => ?_)
    refine s_eff (o_storeN (vs := [(.int .i64 x19.1), (.int .i64 x19.2.1), x19.2.2.1]) (c' := #[(.int .i64 x19.1), (.int .i64 x19.2.1), x19.2.2.1]) ti36 rfl rfl rfl rfl (by intro u hu; simp only [List.mem_cons, List.not_mem_nil, or_false] at hu; rcases hu with rfl | rfl | rfl <;> first | rfl | exact (hok x19 (List.mem_of_getElem? hx20)).one) (by simp) (by kernel_rfl) (hH23.front 0 rfl) fun w24 hH25 => ?_)
    refine s_nil ?_
    refine t_norm (hK15 _ _ ?_)
    refine wp_seq_k fun K26 hK26 => ?_
    refine c_region ?_
    refine s_op (o_move (v := (.pointer (some ⟨tb, 0, none⟩))) e6_0 ?_)
    refine s_op (o_loadN (cs := [(.int .i64 x19.1), (.int .i64 x19.2.1), x19.2.2.1]) Tryz.underlying36 rfl ti36 rfl hH25 (seg_sub 0 rfl) (CellsAt.one rfl) ?_)
    refine s_op (o_callf (vs := #[(.pointer (some ⟨tb, 0, none⟩)), (.agg #[(.int .i64 x19.1), (.int .i64 x19.2.1), x19.2.2.1])]) ca56 rfl (args2 rfl rfl) (tstore_c (d := dc) (n := n) (((hH25.front 3 rfl).front 3 rfl).front 3 rfl).all3 hdc hfc (by omega) hlc (by rw [hnc]; exact h4) (hg.mono (seg_sub 1 rfl)) (a := x19) (PgIn.mono (hok x19 (List.mem_of_getElem? hx20)) (seg_sub 1 rfl))) ?_)
    rintro _ w31 ⟨sg27, rfl, hd28, hX29⟩
    refine ⟨_, rfl, ?_⟩
    have hH30 : Has E w31 [sg27, [Hp.one pb (.cells #[(.bool ((st1 dc n x19).2).p.off), (.bool ((st1 dc n x19).2).p.armed), (.int .i64 ((st1 dc n x19).2).p.left), (.int .i64 ((st1 dc n x19).2).p.uses)] 101 (0, 0))], [Hp.one tb (.cells #[(.pointer (some ⟨db, 0, none⟩)), (.int .i64 n)] 98 (0, 0))], [Hp.one b21 (.cells #[(.int .i64 x19.1), (.int .i64 x19.2.1), x19.2.2.1] 36 (0, 0))], R] := hX29.of_all3
    refine s_op (o_assign (v := (.int .i64 ((st1 dc n x19).1))) rfl ?_)
    refine s_nil ?_
    refine t_norm (hK26 _ _ ?_)
    refine wp_seq_k fun K32 hK32 => ?_
    refine c_region ?_
    refine s_op (o_move (v := (.int .i64 ((st1 dc n x19).1))) rfl ?_)
    refine s_op (o_neq (a := (st1 dc n x19).1) (b := 0) rfl rfl ?_)
    refine s_nil ?_
    refine t_norm (hK32 _ _ ?_)
    refine c_cond rfl (fun h33 => ?_) (fun h33 => ?_)
    · -- (st1 dc n x19).1 ≠ 0
      refine wp_seq_k fun K34 hK34 => ?_
      refine c_region ?_
      refine s_op (o_move (v := (.int .i64 ((st1 dc n x19).1))) rfl ?_)
      refine s_op (o_assign (v := (.int .i64 ((st1 dc n x19).1))) rfl ?_)
      refine s_nil ?_
      refine t_norm (hK34 _ _ ?_)
      refine wp_ret ?_
      refine b_ret (t_ret (t_ret (b_ret (t_ret (c_ret1 Tryz.results18  (v := (.int .i64 ((st1 dc n x19).1))) rfl ?_)))))
      have hH35 : Has E w31 [sg27, [Hp.one pb (.cells #[(.bool ((st1 dc n x19).2).p.off), (.bool ((st1 dc n x19).2).p.armed), (.int .i64 ((st1 dc n x19).2).p.left), (.int .i64 ((st1 dc n x19).2).p.uses)] 101 (0, 0))], [Hp.one tb (.cells #[(.pointer (some ⟨db, 0, none⟩)), (.int .i64 n)] 98 (0, 0))], R] := ((((hH30.front 4 rfl).front 3 rfl).front 3 rfl).front 3 rfl).first 4 rfl
      have hE_ : (stL d n l) = (st1 dc n x19) := stL_stop (show l[i]? = some _ from hx20) hst h33
      exact ⟨_, by rw [hE_], by rw [hE_]; exact hd28, by rw [hE_]; exact hH35⟩
    · -- not: (st1 dc n x19).1 ≠ 0
      refine wp_skip ?_
      refine b_norm ?_
      refine t_norm (hK14 _ _ ?_)
      refine c_region ?_
      refine s_op (o_add (a := (i : Int)) (b := 1) e6_12 rfl (w64 (by omega) (by omega)) ?_)
      refine s_op (o_move (v := (.int .i64 ((i : Int) + 1))) rfl ?_)
      refine s_nil ?_
      have hH36 : Has E w31 [sg27, [Hp.one pb (.cells #[(.bool ((st1 dc n x19).2).p.off), (.bool ((st1 dc n x19).2).p.armed), (.int .i64 ((st1 dc n x19).2).p.left), (.int .i64 ((st1 dc n x19).2).p.uses)] 101 (0, 0))], [Hp.one tb (.cells #[(.pointer (some ⟨db, 0, none⟩)), (.int .i64 n)] 98 (0, 0))], R] := ((((hH30.front 4 rfl).front 3 rfl).front 3 rfl).front 3 rfl).first 4 rfl
      refine t_norm ⟨l.length - (i + 1), _, rfl, ?_, ?_⟩
      · omega
      · exact ⟨(i + 1), ((st1 dc n x19).2), sg27, rfl, hH36, (by omega), (hd28), ((few_st1 hfc).mono (by omega)), (st1_zero hlc (Classical.not_not.1 h33)), (by rw [st1_len]; exact hnc), (stL_go (show l[i]? = some _ from hx20) hst (Classical.not_not.1 h33)), e6_0, e6_1, e6_9, e6_10, e6_11, rfl⟩
  · -- not: (i : Int) < ((l.length : Nat) : Int)
    refine wp_exit ?_
    refine t_exit (t_exit (x_in (?_)))
    refine t_norm (hK4 _ _ ?_)
    refine wp_seq_k fun K37 hK37 => ?_
    refine c_region ?_
    refine s_op (o_assign (v := (.int .i64 0)) rfl ?_)
    refine s_nil ?_
    refine t_norm (hK37 _ _ ?_)
    refine wp_ret ?_
    refine c_ret1 Tryz.results18  (v := (.int .i64 0)) rfl ?_
    have hE_ : (stL d n l) = (0, dc) := by rw [hst, List.drop_of_length_le (by omega)]; rfl
    exact ⟨_, by rw [hE_], by rw [hE_]; exact hdc, by rw [hE_]; exact hH9⟩
end Go.Q
namespace Go.Q
theorem full_settle {lo : List (Int × Bs)} {k : Nat} (hl : LoOk lo k) : ∀ (keep : List Int) (la : List Bs), Full64 la → Full64 (settleS lo la keep)
  | [], la, h => h
  | m :: keep, la, h => by
    have e : settleS lo la (m :: keep) = settleS lo (match getB lo m with | some s => la.set m.toNat s | none => la) keep := rfl
    rw [e]
    cases g : getB lo m with
    | none => exact full_settle hl keep la h
    | some x =>
      refine full_settle hl keep _ ?_
      intro s hs
      rcases List.mem_or_eq_of_mem_set hs with hs | rfl
      · exact h s hs
      · exact (hl _ (getB_some g)).2
theorem full_wrsy {d : Dv} {g : Grp} (hl : LoOk d.lo d.la.length) (h : Full64 d.la) : Full64 (wrsy d g).2.la := by
  unfold wrsy
  split
  · show Full64 (syncA _ _ _)
    unfold syncA
    split
    · exact full_settle (lo_wrs g d hl) _ _ (by rw [wrs_la]; exact h)
    · rw [wrs_la]; exact h
  · rw [wrs_la]; exact h
theorem full_runs : ∀ (gs : List Grp) (d : Dv), d.lo = [] → Full64 d.la → Full64 (runs d gs).2.la
  | [], _, _, h => h
  | g :: t, d, hl, h => by
    have e : runs d (g :: t) = if (wrsy d g).1 = 0 then runs (wrsy d g).2 t else wrsy d g := rfl
    have hg := full_wrsy (g := g) (by rw [hl]; exact LoOk.nil _) h
    rw [e]
    split
    · rename_i h0; exact full_runs t _ (wrsy_zero h0) hg
    · exact hg
theorem full_st1 {d : Dv} {n : Int} {a : Pg} (hl : d.lo = []) (h : Full64 d.la) : Full64 (st1 d n a).2.la := by
  unfold st1
  split
  · exact h
  · exact full_runs _ _ hl h
/-- a power that nobody armed -/
theorem wrs_ne6 : ∀ (g : Grp) (d : Dv), d.p.off = false → d.p.armed = false → (wrs d g).1 ≠ 6 ∧ (wrs d g).2.p.off = false ∧ (wrs d g).2.p.armed = false
  | [], _, h1, h2 => ⟨(show (0 : Int) ≠ 6 by decide), h1, h2⟩
  | (n, s) :: t, d, h1, h2 => by
    have hb : useB d.p = true ∧ (useS d.p).off = false ∧ (useS d.p).armed = false := by
      unfold useB useS
      rw [h1, h2]
      exact ⟨rfl, rfl, rfl⟩
    have e : wrs d ((n, s) :: t) = if d.wrE n s = 0 then wrs (d.wr n s) t else (d.wrE n s, d.wr n s) := rfl
    rw [e]
    split
    · exact wrs_ne6 t (d.wr n s) hb.2.1 hb.2.2
    · refine ⟨?_, hb.2.1, hb.2.2⟩
      unfold Dv.wrE writeE
      rw [if_pos hb.1]
      split
      · show (0 : Int) ≠ 6; decide
      · show (1 : Int) ≠ 6; decide
theorem wrsy_ne6 {g : Grp} {d : Dv} (h1 : d.p.off = false) (h2 : d.p.armed = false) : (wrsy d g).1 ≠ 6 ∧ (wrsy d g).2.p.off = false ∧ (wrsy d g).2.p.armed = false := by
  obtain ⟨a1, a2, a3⟩ := wrs_ne6 g d h1 h2
  unfold wrsy
  split
  · have hb : useB (wrs d g).2.p = true ∧ (useS (wrs d g).2.p).off = false ∧ (useS (wrs d g).2.p).armed = false := by
      unfold useB useS
      rw [a2, a3]
      exact ⟨rfl, rfl, rfl⟩
    refine ⟨?_, hb.2.1, hb.2.2⟩
    unfold Dv.syE syncE
    rw [if_pos hb.1]
    show (0 : Int) ≠ 6; decide
  · exact ⟨a1, a2, a3⟩
theorem runs_ne6 : ∀ (gs : List Grp) (d : Dv), d.p.off = false → d.p.armed = false → (runs d gs).1 ≠ 6 ∧ (runs d gs).2.p.off = false ∧ (runs d gs).2.p.armed = false
  | [], _, h1, h2 => ⟨(show (0 : Int) ≠ 6 by decide), h1, h2⟩
  | g :: t, d, h1, h2 => by
    have e : runs d (g :: t) = if (wrsy d g).1 = 0 then runs (wrsy d g).2 t else wrsy d g := rfl
    obtain ⟨a1, a2, a3⟩ := wrsy_ne6 (g := g) h1 h2
    rw [e]
    split
    · exact runs_ne6 t _ a2 a3
    · exact ⟨a1, a2, a3⟩
theorem mend_ne6 {d : Dv} {n : Int} (h1 : d.p.off = false) (h2 : d.p.armed = false) : (mendR d n).1 ≠ 6 := by
  unfold mendR
  rw [if_neg (by rw [h1]; decide)]
  split
  · show (9 : Int) ≠ 6; decide
  · split
    · show (0 : Int) ≠ 6; decide
    · split
      · exact (runs_ne6 _ _ h1 h2).1
      · show (9 : Int) ≠ 6; decide
theorem st_spec2 {d : Dv} {n : Nat} {B : Nat → Bs} {a : Pg} (hlo : d.lo = []) (hT : Tw d.la n B) (ho : d.p.off = false) :
    ((st1 d n a).1 = 0 ∧ lpg a ≠ [] ∧ a.1 < (n : Int) ∧ Tw (st1 d n a).2.la n (updB B a.1.toNat (lpg a)) ∧ (st1 d n a).2.lo = [] ∧ (st1 d n a).2.p.off = false) ∨
    ((st1 d n a).1 = 6 ∧ lpg a ≠ [] ∧ a.1 < (n : Int) ∧ LoOk (st1 d n a).2.lo (st1 d n a).2.la.length ∧ ∀ keep, Pend (settleS (st1 d n a).2.lo (st1 d n a).2.la keep) n B a.1.toNat (lpg a)) ∨ st1 d n a = (1, d) := by
  by_cases hs : lpg a = []
  · exact .inr (.inr (if_pos (.inl hs)))
  · by_cases hn : a.1 < (n : Int)
    · rw [Dv.eta0 hlo]
      rcases st_spec (p := d.p) (a := a) hT ho hs hn with ⟨h1, h2, h3, h4⟩ | ⟨h1, h2, h3⟩
      · exact .inl ⟨h1, hs, hn, h2, h3, h4⟩
      · exact .inr (.inl ⟨h1, hs, hn, h2, h3⟩)
    · exact .inr (.inr (if_pos (.inr (by omega))))
/-- how TwiceCrashes stands: nothing under way, or one page -/
def TcS (d : Dv) (now ul : List Pg) (B : Nat → Bs) : Prop :=
  Told now B 6 ∧ LoOk d.lo d.la.length ∧ ((ul = [] ∧ d.lo = [] ∧ d.p.off = false ∧ Tw d.la 6 B) ∨ (∃ a, ul = [a] ∧ lpg a ≠ [] ∧ a.1 < 6 ∧ ∀ keep, Pend (settleS d.lo d.la keep) 6 B a.1.toNat (lpg a)))
theorem TcS.go {d : Dv} {now : List Pg} {B : Nat → Bs} (h : TcS d now [] B) : Told now B 6 ∧ d.lo = [] ∧ d.p.off = false ∧ Tw d.la 6 B := by
  obtain ⟨h1, _, ⟨_, h2, h3, h4⟩ | ⟨a, e, _⟩⟩ := h
  · exact ⟨h1, h2, h3, h4⟩
  · cases e
theorem lpg_no {a : Pg} (h : lpg a ≠ []) : 0 ≤ a.1 ∧ a.1 < 64 := page_no (lpg_right h)
theorem lpg_of {a : Pg} (h : lpg a ≠ []) : pgOf (lpg a) a.1 = (pgT a, 0) := pgOf_laid (lpg_right h)
theorem TcS.ok {d : Dv} {now : List Pg} {B : Nat → Bs} {a : Pg} (h : TcS d now [] B) (e : (st1 d 6 a).1 = 0) : (0 ≤ a.1 ∧ a.1 < 6) ∧ TcS (st1 d 6 a).2 (now.set a.1.toNat a) [] (updB B a.1.toNat (lpg a)) := by
  obtain ⟨h1, h2, h3, h4⟩ := h.go
  rcases st_spec2 (n := 6) (a := a) h2 h4 h3 with ⟨_, q2, q3, q4, q5, q6⟩ | ⟨q, _⟩ | q
  · have hn := lpg_no q2
    refine ⟨⟨hn.1, q3⟩, h1.set (by omega) (by rw [show ((a.1.toNat : Nat) : Int) = a.1 by omega]; exact lpg_of q2), ?_, .inl ⟨rfl, q5, q6, q4⟩⟩
    exact (show LoOk (st1 d 6 a).2.lo (st1 d 6 a).2.la.length from by rw [show (st1 d 6 a).2.lo = [] from q5]; exact LoOk.nil _)
  · exact absurd (q.symm.trans e) (by decide)
  · have e2 : (st1 d 6 a).1 = 1 := congrArg Prod.fst q
    rw [e2] at e; cases e
theorem TcS.off {d : Dv} {now : List Pg} {B : Nat → Bs} {a : Pg} (h : TcS d now [] B) (e : (st1 d 6 a).1 = 6) : TcS (st1 d 6 a).2 now [a] B := by
  obtain ⟨h1, h2, h3, h4⟩ := h.go
  rcases st_spec2 (n := 6) (a := a) h2 h4 h3 with ⟨q, _⟩ | ⟨_, q2, q3, q4, q5⟩ | q
  · exact absurd (q.symm.trans e) (by decide)
  · exact ⟨h1, q4, .inr ⟨a, rfl, q2, q3, q5⟩⟩
  · have e2 : (st1 d 6 a).1 = 1 := congrArg Prod.fst q
    rw [e2] at e; cases e
/-- behind the first crash, and behind the mending that another one may end -/
def TcP (la : List Bs) (ul : List Pg) (B : Nat → Bs) : Prop := (ul = [] ∧ Tw la 6 B) ∨ (∃ a, ul = [a] ∧ lpg a ≠ [] ∧ a.1 < 6 ∧ Pend la 6 B a.1.toNat (lpg a))
theorem TcS.crash {d : Dv} {now ul : List Pg} {B : Nat → Bs} (h : TcS d now ul B) (keep : List Int) : TcP (d.cr keep).la ul B := by
  obtain ⟨_, _, ⟨h1, h2, _, h4⟩ | ⟨a, h1, h2, h3, h4⟩⟩ := h
  · refine .inl ⟨h1, ?_⟩
    show Tw (settleS d.lo d.la keep) 6 B
    rw [h2, settle_none]; exact h4
  · exact .inr ⟨a, h1, h2, h3, h4 keep⟩
theorem TcP.open {d : Dv} {ul : List Pg} {B : Nat → Bs} (h : TcP d.la ul B) (hlo : d.lo = []) (ho : d.p.off = false) (ha : d.p.armed = false) :
    (mendR d 6).1 = 0 ∧ (mendR d 6).2.lo = [] ∧ (mendR d 6).2.p.off = false ∧ ((ul = [] ∧ Tw (mendR d 6).2.la 6 B) ∨ (∃ a, ul = [a] ∧ lpg a ≠ [] ∧ a.1 < 6 ∧ (Tw (mendR d 6).2.la 6 B ∨ Tw (mendR d 6).2.la 6 (updB B a.1.toNat (lpg a))))) := by
  have h6 := mend_ne6 (n := 6) ho ha
  rw [Dv.eta0 hlo] at h6 ⊢
  rcases h with ⟨h1, h2⟩ | ⟨a, h1, h2, h3, h4⟩
  · have e : mendR ⟨d.p, d.la, []⟩ 6 = (0, ⟨d.p, d.la, []⟩) := tw_mend (p := d.p) h2 ho
    rw [e]
    exact ⟨rfl, rfl, ho, .inl ⟨h1, h2⟩⟩
  · have hn := lpg_no h2
    have ea : ((a.1.toNat : Nat) : Int) = a.1 := by omega
    have el : laidP (a.1.toNat : Int) a.2.1 a.2.2.2 = lpg a := by rw [ea]; rfl
    have H := mend_spec (p := d.p) (n := 6) (B := B) (no := a.1.toNat) (gsn := a.2.1) (l := a.2.2.2) (by rw [el]; exact h4) (by rw [ea]; exact lpg_right h2) (by omega) (by decide) ho
    rw [el] at H
    rcases H with ⟨q1, q2, q3, q4⟩ | ⟨q1, _⟩
    · exact ⟨q1, q3, q4, .inr ⟨a, h1, h2, h3, q2⟩⟩
    · exact absurd q1 h6
end Go.Q
namespace Go.Q
def eP (i : Int) : Pg := (i, 0, .slice none 0 0, [])
def emptyS (m : Nat) : List Pg := (List.range m).map (fun k : Nat => eP k)
theorem empty_len (m : Nat) : (emptyS m).length = m := by unfold emptyS; rw [List.length_map, List.length_range]
theorem empty_get {m k : Nat} (h : k < m) : (emptyS m)[k]? = some (eP k) := by
  unfold emptyS
  rw [List.getElem?_map, List.getElem?_range h]; rfl
theorem stL_single (d : Dv) (n : Int) (a : Pg) : stL d n [a] = st1 d n a := by
  have e : stL d n [a] = if (st1 d n a).1 = 0 then stL (st1 d n a).2 n [] else st1 d n a := rfl
  rw [e]
  split
  · rename_i h
    show (0, (st1 d n a).2) = _
    rw [← h]
  · rfl
theorem sec_blank {m : Nat} {x : Int} (h : x.toNat < m) : sec (List.replicate m blankS) x = blankS := by
  unfold sec
  rw [List.getElem?_replicate, if_pos h]; rfl
theorem tw_start {n m : Nat} (h : 5 + 4 * n ≤ m) : Tw (List.replicate m blankS) n (fun _ => zer 256) := by
  refine ⟨by rw [List.length_replicate]; exact h, sec_blank (by show 0 < m; omega), fun k hk => ?_⟩
  unfold pgB
  have hp : plc (k : Int) = 5 + (k : Int) * 4 := rfl
  rw [sec_blank (by omega), sec_blank (by omega), sec_blank (by omega), sec_blank (by omega)]
  unfold blankS zer
  simp only [List.replicate_append_replicate]
theorem told_start (n : Nat) : Told (emptyS n) (fun _ => zer 256) n := ⟨empty_len n, fun k hk => ⟨eP k, empty_get hk, if_pos rfl⟩⟩
end Go.Q
namespace Go.Q
open Go.Proofs
set_option linter.unusedVariables false
set_option maxRecDepth 100000
attribute [local irreducible] wpList OK Code.wp
theorem tstore1_c {E w : World} {R sg : List Hp} {pb db tb : Nat} {d : Dv} {n : Int} (hH : Has E w [sg, [Hp.one pb (.cells #[(.bool d.p.off), (.bool d.p.armed), (.int .i64 d.p.left), (.int .i64 d.p.uses)] 101 (0, 0))], [Hp.one tb (.cells #[(.pointer (some ⟨db, 0, none⟩)), (.int .i64 n)] 98 (0, 0))], R]) (hd : DevAt pb sg db d.la d.lo) {k : Nat} (hf : Few d.p k) (hk : k ≤ 800000) (hlo : d.lo = []) (h4 : d.la.length ≤ 4096) (hg : CellsAt R 1 0 nibV) {v : Value} {a : Pg} (hv : Sl R 3 v [a].length ([a].flatMap pgC)) (hin : PgIn R a) :
    Calls Tryz.prog 18 #[.pointer (some ⟨tb, 0, none⟩), v] w fun e w' => ∃ sg', e = .returned (.int .i64 (st1 d n a).1) ∧ DevAt pb sg' db (st1 d n a).2.la (st1 d n a).2.lo ∧ Has E w' [sg', [Hp.one pb (.cells #[(.bool ((st1 d n a).2).p.off), (.bool ((st1 d n a).2).p.armed), (.int .i64 ((st1 d n a).2).p.left), (.int .i64 ((st1 d n a).2).p.uses)] 101 (0, 0))], [Hp.one tb (.cells #[(.pointer (some ⟨db, 0, none⟩)), (.int .i64 n)] 98 (0, 0))], R] := by
  have h_ := tstoreL_c hH hd hf hk hlo h4 hg hv (fun b hb => by rw [List.mem_singleton.1 hb]; exact hin) (show 1 ≤ 1000 by decide)
  rw [stL_single] at h_
  exact h_
end Go.Q
namespace Go.Q
open Go.Proofs
set_option linter.unusedVariables false
set_option maxRecDepth 100000
attribute [local irreducible] wpList OK Code.wp
set_option maxHeartbeats 4000000 in
theorem tget_on {E w : World} {R sg : List Hp} {pb db tb : Nat} {d : Dv} {n : Int} (hH : Has E w [sg, [Hp.one pb (.cells #[(.bool d.p.off), (.bool d.p.armed), (.int .i64 d.p.left), (.int .i64 d.p.uses)] 101 (0, 0))], [Hp.one tb (.cells #[(.pointer (some ⟨db, 0, none⟩)), (.int .i64 n)] 98 (0, 0))], R]) (hd : DevAt pb sg db d.la d.lo) (hlo : d.lo = []) (hon : d.p.off = false) (h64 : Full64 d.la) {x : Int} (hx : 0 ≤ x ∧ x + 4 ≤ d.la.length) (h4 : d.la.length ≤ 4096) :
    Calls Tryz.prog 63 #[(.pointer (some ⟨tb, 0, none⟩)), (.int .i64 x)] w fun e w' => e = .returned (.tuple #[S (pgB d.la x), .int .i64 0]) ∧ Has E w' [sg, [Hp.one pb (.cells #[(.bool d.p.off), (.bool d.p.armed), (.int .i64 d.p.left), (.int .i64 d.p.uses)] 101 (0, 0))], [Hp.one tb (.cells #[(.pointer (some ⟨db, 0, none⟩)), (.int .i64 n)] 98 (0, 0))], R] := by
  refine c_enter (args := [(.pointer (some ⟨tb, 0, none⟩)), (.int .i64 x)]) Tryz.func63 rfl Tryz.ntmps63 (by simp) ?_
  refine wp_seq_k fun K1 hK1 => ?_
  refine c_region ?_
  refine s_op (o_assign (v := (S ([] : List UInt8))) rfl ?_)
  refine s_op (o_assign (v := (.int .i64 0)) rfl ?_)
  refine s_nil ?_
  refine t_norm (hK1 _ _ ?_)
  refine wp_seq_k fun K2 hK2 => ?_
  refine c_region ?_
  refine s_op (o_alloc (cs := #[(.pointer none), (.slice none 0 0)]) ti145 rfl hH fun b3 w4 hH5 => ?_)
  refine s_nil ?_
  refine t_norm (hK2 _ _ ?_)
  refine wp_seq_k fun K6 hK6 => ?_
  refine wp_seq_k fun K7 hK7 => ?_
  refine c_region ?_
  refine s_op (o_move (v := (.int .i64 0)) rfl ?_)
  refine s_nil ?_
  refine t_norm (hK7 _ _ ?_)
  refine wp_block ?_
  refine u_loop 5 (u_round ?_)
  refine wp_seq_k fun K8 hK8 => ?_
  refine c_region ?_
  refine s_op (o_lss (a := 0) (b := 4) rfl rfl ?_)
  refine s_nil ?_
  refine t_norm (hK8 _ _ ?_)
  refine wp_seq_k fun K9 hK9 => ?_
  refine c_true rfl rfl ?_
  refine wp_skip ?_
  refine t_norm (hK9 _ _ ?_)
  refine wp_seq_k fun K10 hK10 => ?_
  refine wp_block ?_
  refine wp_seq_k fun K11 hK11 => ?_
  refine c_region ?_
  refine s_op (o_move (v := (.int .i64 0)) rfl ?_)
  refine s_op (o_assign (v := (.int .i64 0)) rfl ?_)
  refine s_nil ?_
  refine t_norm (hK11 _ _ ?_)
  refine wp_seq_k fun K12 hK12 => ?_
  refine c_region ?_
  refine s_op (o_move (v := (.pointer (some ⟨tb, 0, none⟩))) rfl ?_)
  refine s_op (o_nilCheck rfl ?_)
  refine s_op (o_fieldAddr (k := 0) (fun _ => by kernel_rfl) rfl ?_)
  refine s_op (o_load1 (v := (.pointer (some ⟨db, 0, none⟩))) Tryz.underlying29 rfl rfl hH5 (seg_sub 3 rfl) (CellsAt.one rfl) ?_)
  refine s_op (o_move (v := (.int .i64 x)) rfl ?_)
  refine s_op (o_move (v := (.int .i64 0)) rfl ?_)
  refine s_op (o_add (a := x) (b := 0) (c := x) rfl rfl (by rw [Int.add_zero]; exact w64 (by omega) (by omega)) ?_)
  refine s_op (o_callf (vs := #[(.pointer (some ⟨db, 0, none⟩)), (.int .i64 x)]) ca32 rfl (args2 rfl rfl) (read_d (p := d.p) (la := d.la) (lo := d.lo) ((hH5.front 2 rfl).front 2 rfl).all2 hd x) ?_)
  rintro _ w15 ⟨rfl, hX13⟩
  refine ⟨_, rfl, ?_⟩
  have hH14 : Has E w15 [sg, [Hp.one pb (.cells #[(.bool d.p.off), (.bool d.p.armed), (.int .i64 d.p.left), (.int .i64 d.p.uses)] 101 (0, 0))], [Hp.one b3 (.cells #[(.pointer none), (.slice none 0 0)] 145 (0, 0))], [Hp.one tb (.cells #[(.pointer (some ⟨db, 0, none⟩)), (.int .i64 n)] 98 (0, 0))], R] := hX13.of_all2
  refine s_op (o_move (v := (.tuple #[(S (readS d.p d.la d.lo x)), (.int .i64 (readE d.p d.la x))])) rfl ?_)
  refine s_op (o_extract (v := (S (readS d.p d.la d.lo x))) rfl rfl ?_)
  refine s_op (o_extract (v := (.int .i64 (readE d.p d.la x))) rfl rfl ?_)
  refine s_op (o_assign (v := (S (readS d.p d.la d.lo x))) rfl ?_)
  refine s_op (o_assign (v := (.int .i64 (readE d.p d.la x))) rfl ?_)
  refine s_nil ?_
  refine t_norm (hK12 _ _ ?_)
  refine wp_seq_k fun K16 hK16 => ?_
  refine wp_seq_k fun K17 hK17 => ?_
  refine c_region ?_
  refine s_op (o_move (v := (.int .i64 (readE d.p d.la x))) rfl ?_)
  refine s_op (o_neq (a := readE d.p d.la x) (b := 0) rfl rfl ?_)
  refine s_nil ?_
  refine t_norm (hK17 _ _ ?_)
  refine c_cond rfl (fun h18 => ?_) (fun h18 => ?_)
  · -- readE d.p d.la x ≠ 0
    obtain ⟨hs19_, he19_⟩ := rd_sec (d := d) (n := x) hlo hon ⟨by omega, by omega⟩
    have hl19_ : (readS d.p d.la d.lo x).length = 64 := by rw [hs19_]; exact sec_len h64 ⟨by omega, by omega⟩
    exact absurd he19_ h18
  · -- not: readE d.p d.la x ≠ 0
    obtain ⟨hs20_, he20_⟩ := rd_sec (d := d) (n := x) hlo hon ⟨by omega, by omega⟩
    have hl20_ : (readS d.p d.la d.lo x).length = 64 := by rw [hs20_]; exact sec_len h64 ⟨by omega, by omega⟩
    refine wp_skip ?_
    refine t_norm (hK16 _ _ ?_)
    refine c_region ?_
    refine s_op (o_move (v := (S (readS d.p d.la d.lo x))) rfl ?_)
    refine s_op (o_callf (vs := #[(.pointer (some ⟨b3, 0, none⟩)), (S (readS d.p d.la d.lo x))]) ca103 rfl (args2 rfl rfl) (bws (hH14.front 2 rfl).all1 (Bld.new b3) (readS d.p d.la d.lo x) (by simp only [List.length_append, List.length_nil]; omega)) ?_)
    rintro _ w25 ⟨sg21, rfl, hB22, hX23⟩
    refine ⟨_, rfl, ?_⟩
    have hH24 : Has E w25 [sg21, sg, [Hp.one pb (.cells #[(.bool d.p.off), (.bool d.p.armed), (.int .i64 d.p.left), (.int .i64 d.p.uses)] 101 (0, 0))], [Hp.one tb (.cells #[(.pointer (some ⟨db, 0, none⟩)), (.int .i64 n)] 98 (0, 0))], R] := hX23.of_all1
    refine s_nil ?_
    refine b_norm ?_
    refine t_norm (hK10 _ _ ?_)
    refine c_region ?_
    refine s_op (o_add (a := 0) (b := 1) (c := 1) rfl rfl (by decide) ?_)
    refine s_op (o_move (v := (.int .i64 1)) rfl ?_)
    refine s_nil ?_
    refine t_norm (u_round ?_)
    refine wp_seq_k fun K26 hK26 => ?_
    refine c_region ?_
    refine s_op (o_lss (a := 1) (b := 4) rfl rfl ?_)
    refine s_nil ?_
    refine t_norm (hK26 _ _ ?_)
    refine wp_seq_k fun K27 hK27 => ?_
    refine c_true rfl rfl ?_
    refine wp_skip ?_
    refine t_norm (hK27 _ _ ?_)
    refine wp_seq_k fun K28 hK28 => ?_
    refine wp_block ?_
    refine wp_seq_k fun K29 hK29 => ?_
    refine c_region ?_
    refine s_op (o_move (v := (.int .i64 1)) rfl ?_)
    refine s_op (o_assign (v := (.int .i64 1)) rfl ?_)
    refine s_nil ?_
    refine t_norm (hK29 _ _ ?_)
    refine wp_seq_k fun K30 hK30 => ?_
    refine c_region ?_
    refine s_op (o_move (v := (.pointer (some ⟨tb, 0, none⟩))) rfl ?_)
    refine s_op (o_nilCheck rfl ?_)
    refine s_op (o_fieldAddr (k := 0) (fun _ => by kernel_rfl) rfl ?_)
    refine s_op (o_load1 (v := (.pointer (some ⟨db, 0, none⟩))) Tryz.underlying29 rfl rfl hH24 (seg_sub 3 rfl) (CellsAt.one rfl) ?_)
    refine s_op (o_move (v := (.int .i64 x)) rfl ?_)
    refine s_op (o_move (v := (.int .i64 1)) rfl ?_)
    refine s_op (o_add (a := x) (b := 1) rfl rfl (w64 (by omega) (by omega)) ?_)
    refine s_op (o_callf (vs := #[(.pointer (some ⟨db, 0, none⟩)), (.int .i64 (x + 1))]) ca32 rfl (args2 rfl rfl) (read_d (p := d.p) (la := d.la) (lo := d.lo) ((hH24.front 2 rfl).front 2 rfl).all2 hd (x + 1)) ?_)
    rintro _ w33 ⟨rfl, hX31⟩
    refine ⟨_, rfl, ?_⟩
    have hH32 : Has E w33 [sg, [Hp.one pb (.cells #[(.bool d.p.off), (.bool d.p.armed), (.int .i64 d.p.left), (.int .i64 d.p.uses)] 101 (0, 0))], sg21, [Hp.one tb (.cells #[(.pointer (some ⟨db, 0, none⟩)), (.int .i64 n)] 98 (0, 0))], R] := hX31.of_all2
    refine s_op (o_move (v := (.tuple #[(S (readS d.p d.la d.lo (x + 1))), (.int .i64 (readE d.p d.la (x + 1)))])) rfl ?_)
    refine s_op (o_extract (v := (S (readS d.p d.la d.lo (x + 1)))) rfl rfl ?_)
    refine s_op (o_extract (v := (.int .i64 (readE d.p d.la (x + 1)))) rfl rfl ?_)
    refine s_op (o_assign (v := (S (readS d.p d.la d.lo (x + 1)))) rfl ?_)
    refine s_op (o_assign (v := (.int .i64 (readE d.p d.la (x + 1)))) rfl ?_)
    refine s_nil ?_
    refine t_norm (hK30 _ _ ?_)
    refine wp_seq_k fun K34 hK34 => ?_
    refine wp_seq_k fun K35 hK35 => ?_
    refine c_region ?_
    refine s_op (o_move (v := (.int .i64 (readE d.p d.la (x + 1)))) rfl ?_)
    refine s_op (o_neq (a := readE d.p d.la (x + 1)) (b := 0) rfl rfl ?_)
    refine s_nil ?_
    refine t_norm (hK35 _ _ ?_)
    refine c_cond rfl (fun h36 => ?_) (fun h36 => ?_)
    · -- readE d.p d.la (x + 1) ≠ 0
      obtain ⟨hs37_, he37_⟩ := rd_sec (d := d) (n := x + 1) hlo hon ⟨by omega, by omega⟩
      have hl37_ : (readS d.p d.la d.lo (x + 1)).length = 64 := by rw [hs37_]; exact sec_len h64 ⟨by omega, by omega⟩
      exact absurd he37_ h36
    · -- not: readE d.p d.la (x + 1) ≠ 0
      obtain ⟨hs38_, he38_⟩ := rd_sec (d := d) (n := x + 1) hlo hon ⟨by omega, by omega⟩
      have hl38_ : (readS d.p d.la d.lo (x + 1)).length = 64 := by rw [hs38_]; exact sec_len h64 ⟨by omega, by omega⟩
      refine wp_skip ?_
      refine t_norm (hK34 _ _ ?_)
      refine c_region ?_
      refine s_op (o_move (v := (S (readS d.p d.la d.lo (x + 1)))) rfl ?_)
      refine s_op (o_callf (vs := #[(.pointer (some ⟨b3, 0, none⟩)), (S (readS d.p d.la d.lo (x + 1)))]) ca103 rfl (args2 rfl rfl) (bws (hH32.front 2 rfl).all1 hB22 (readS d.p d.la d.lo (x + 1)) (by simp only [List.length_append, List.length_nil]; omega)) ?_)
      rintro _ w43 ⟨sg39, rfl, hB40, hX41⟩
      refine ⟨_, rfl, ?_⟩
      have hH42 : Has E w43 [sg39, sg, [Hp.one pb (.cells #[(.bool d.p.off), (.bool d.p.armed), (.int .i64 d.p.left), (.int .i64 d.p.uses)] 101 (0, 0))], [Hp.one tb (.cells #[(.pointer (some ⟨db, 0, none⟩)), (.int .i64 n)] 98 (0, 0))], R] := hX41.of_all1
      refine s_nil ?_
      refine b_norm ?_
      refine t_norm (hK28 _ _ ?_)
      refine c_region ?_
      refine s_op (o_add (a := 1) (b := 1) (c := 2) rfl rfl (by decide) ?_)
      refine s_op (o_move (v := (.int .i64 2)) rfl ?_)
      refine s_nil ?_
      refine t_norm (u_round ?_)
      refine wp_seq_k fun K44 hK44 => ?_
      refine c_region ?_
      refine s_op (o_lss (a := 2) (b := 4) rfl rfl ?_)
      refine s_nil ?_
      refine t_norm (hK44 _ _ ?_)
      refine wp_seq_k fun K45 hK45 => ?_
      refine c_true rfl rfl ?_
      refine wp_skip ?_
      refine t_norm (hK45 _ _ ?_)
      refine wp_seq_k fun K46 hK46 => ?_
      refine wp_block ?_
      refine wp_seq_k fun K47 hK47 => ?_
      refine c_region ?_
      refine s_op (o_move (v := (.int .i64 2)) rfl ?_)
      refine s_op (o_assign (v := (.int .i64 2)) rfl ?_)
      refine s_nil ?_
      refine t_norm (hK47 _ _ ?_)
      refine wp_seq_k fun K48 hK48 => ?_
      refine c_region ?_
      refine s_op (o_move (v := (.pointer (some ⟨tb, 0, none⟩))) rfl ?_)
      refine s_op (o_nilCheck rfl ?_)
      refine s_op (o_fieldAddr (k := 0) (fun _ => by kernel_rfl) rfl ?_)
      refine s_op (o_load1 (v := (.pointer (some ⟨db, 0, none⟩))) Tryz.underlying29 rfl rfl hH42 (seg_sub 3 rfl) (CellsAt.one rfl) ?_)
      refine s_op (o_move (v := (.int .i64 x)) rfl ?_)
      refine s_op (o_move (v := (.int .i64 2)) rfl ?_)
      refine s_op (o_add (a := x) (b := 2) rfl rfl (w64 (by omega) (by omega)) ?_)
      refine s_op (o_callf (vs := #[(.pointer (some ⟨db, 0, none⟩)), (.int .i64 (x + 2))]) ca32 rfl (args2 rfl rfl) (read_d (p := d.p) (la := d.la) (lo := d.lo) ((hH42.front 2 rfl).front 2 rfl).all2 hd (x + 2)) ?_)
      rintro _ w51 ⟨rfl, hX49⟩
      refine ⟨_, rfl, ?_⟩
      have hH50 : Has E w51 [sg, [Hp.one pb (.cells #[(.bool d.p.off), (.bool d.p.armed), (.int .i64 d.p.left), (.int .i64 d.p.uses)] 101 (0, 0))], sg39, [Hp.one tb (.cells #[(.pointer (some ⟨db, 0, none⟩)), (.int .i64 n)] 98 (0, 0))], R] := hX49.of_all2
      refine s_op (o_move (v := (.tuple #[(S (readS d.p d.la d.lo (x + 2))), (.int .i64 (readE d.p d.la (x + 2)))])) rfl ?_)
      refine s_op (o_extract (v := (S (readS d.p d.la d.lo (x + 2)))) rfl rfl ?_)
      refine s_op (o_extract (v := (.int .i64 (readE d.p d.la (x + 2)))) rfl rfl ?_)
      refine s_op (o_assign (v := (S (readS d.p d.la d.lo (x + 2)))) rfl ?_)
      refine s_op (o_assign (v := (.int .i64 (readE d.p d.la (x + 2)))) rfl ?_)
      refine s_nil ?_
      refine t_norm (hK48 _ _ ?_)
      refine wp_seq_k fun K52 hK52 => ?_
      refine wp_seq_k fun K53 hK53 => ?_
      refine c_region ?_
      refine s_op (o_move (v := (.int .i64 (readE d.p d.la (x + 2)))) rfl ?_)
      refine s_op (o_neq (a := readE d.p d.la (x + 2)) (b := 0) rfl rfl ?_)
      refine s_nil ?_
      refine t_norm (hK53 _ _ ?_)
      refine c_cond rfl (fun h54 => ?_) (fun h54 => ?_)
      · -- readE d.p d.la (x + 2) ≠ 0
        obtain ⟨hs55_, he55_⟩ := rd_sec (d := d) (n := x + 2) hlo hon ⟨by omega, by omega⟩
        have hl55_ : (readS d.p d.la d.lo (x + 2)).length = 64 := by rw [hs55_]; exact sec_len h64 ⟨by omega, by omega⟩
        exact absurd he55_ h54
      · -- not: readE d.p d.la (x + 2) ≠ 0
        obtain ⟨hs56_, he56_⟩ := rd_sec (d := d) (n := x + 2) hlo hon ⟨by omega, by omega⟩
        have hl56_ : (readS d.p d.la d.lo (x + 2)).length = 64 := by rw [hs56_]; exact sec_len h64 ⟨by omega, by omega⟩
        refine wp_skip ?_
        refine t_norm (hK52 _ _ ?_)
        refine c_region ?_
        refine s_op (o_move (v := (S (readS d.p d.la d.lo (x + 2)))) rfl ?_)
        refine s_op (o_callf (vs := #[(.pointer (some ⟨b3, 0, none⟩)), (S (readS d.p d.la d.lo (x + 2)))]) ca103 rfl (args2 rfl rfl) (bws (hH50.front 2 rfl).all1 hB40 (readS d.p d.la d.lo (x + 2)) (by simp only [List.length_append, List.length_nil]; omega)) ?_)
        rintro _ w61 ⟨sg57, rfl, hB58, hX59⟩
        refine ⟨_, rfl, ?_⟩
        have hH60 : Has E w61 [sg57, sg, [Hp.one pb (.cells #[(.bool d.p.off), (.bool d.p.armed), (.int .i64 d.p.left), (.int .i64 d.p.uses)] 101 (0, 0))], [Hp.one tb (.cells #[(.pointer (some ⟨db, 0, none⟩)), (.int .i64 n)] 98 (0, 0))], R] := hX59.of_all1
        refine s_nil ?_
        refine b_norm ?_
        refine t_norm (hK46 _ _ ?_)
        refine c_region ?_
        refine s_op (o_add (a := 2) (b := 1) (c := 3) rfl rfl (by decide) ?_)
        refine s_op (o_move (v := (.int .i64 3)) rfl ?_)
        refine s_nil ?_
        refine t_norm (u_round ?_)
        refine wp_seq_k fun K62 hK62 => ?_
        refine c_region ?_
        refine s_op (o_lss (a := 3) (b := 4) rfl rfl ?_)
        refine s_nil ?_
        refine t_norm (hK62 _ _ ?_)
        refine wp_seq_k fun K63 hK63 => ?_
        refine c_true rfl rfl ?_
        refine wp_skip ?_
        refine t_norm (hK63 _ _ ?_)
        refine wp_seq_k fun K64 hK64 => ?_
        refine wp_block ?_
        refine wp_seq_k fun K65 hK65 => ?_
        refine c_region ?_
        refine s_op (o_move (v := (.int .i64 3)) rfl ?_)
        refine s_op (o_assign (v := (.int .i64 3)) rfl ?_)
        refine s_nil ?_
        refine t_norm (hK65 _ _ ?_)
        refine wp_seq_k fun K66 hK66 => ?_
        refine c_region ?_
        refine s_op (o_move (v := (.pointer (some ⟨tb, 0, none⟩))) rfl ?_)
        refine s_op (o_nilCheck rfl ?_)
        refine s_op (o_fieldAddr (k := 0) (fun _ => by kernel_rfl) rfl ?_)
        refine s_op (o_load1 (v := (.pointer (some ⟨db, 0, none⟩))) Tryz.underlying29 rfl rfl hH60 (seg_sub 3 rfl) (CellsAt.one rfl) ?_)
        refine s_op (o_move (v := (.int .i64 x)) rfl ?_)
        refine s_op (o_move (v := (.int .i64 3)) rfl ?_)
        refine s_op (o_add (a := x) (b := 3) rfl rfl (w64 (by omega) (by omega)) ?_)
        refine s_op (o_callf (vs := #[(.pointer (some ⟨db, 0, none⟩)), (.int .i64 (x + 3))]) ca32 rfl (args2 rfl rfl) (read_d (p := d.p) (la := d.la) (lo := d.lo) ((hH60.front 2 rfl).front 2 rfl).all2 hd (x + 3)) ?_)
        rintro _ w69 ⟨rfl, hX67⟩
        refine ⟨_, rfl, ?_⟩
        have hH68 : Has E w69 [sg, [Hp.one pb (.cells #[(.bool d.p.off), (.bool d.p.armed), (.int .i64 d.p.left), (.int .i64 d.p.uses)] 101 (0, 0))], sg57, [Hp.one tb (.cells #[(.pointer (some ⟨db, 0, none⟩)), (.int .i64 n)] 98 (0, 0))], R] := hX67.of_all2
        refine s_op (o_move (v := (.tuple #[(S (readS d.p d.la d.lo (x + 3))), (.int .i64 (readE d.p d.la (x + 3)))])) rfl ?_)
        refine s_op (o_extract (v := (S (readS d.p d.la d.lo (x + 3)))) rfl rfl ?_)
        refine s_op (o_extract (v := (.int .i64 (readE d.p d.la (x + 3)))) rfl rfl ?_)
        refine s_op (o_assign (v := (S (readS d.p d.la d.lo (x + 3)))) rfl ?_)
        refine s_op (o_assign (v := (.int .i64 (readE d.p d.la (x + 3)))) rfl ?_)
        refine s_nil ?_
        refine t_norm (hK66 _ _ ?_)
        refine wp_seq_k fun K70 hK70 => ?_
        refine wp_seq_k fun K71 hK71 => ?_
        refine c_region ?_
        refine s_op (o_move (v := (.int .i64 (readE d.p d.la (x + 3)))) rfl ?_)
        refine s_op (o_neq (a := readE d.p d.la (x + 3)) (b := 0) rfl rfl ?_)
        refine s_nil ?_
        refine t_norm (hK71 _ _ ?_)
        refine c_cond rfl (fun h72 => ?_) (fun h72 => ?_)
        · -- readE d.p d.la (x + 3) ≠ 0
          obtain ⟨hs73_, he73_⟩ := rd_sec (d := d) (n := x + 3) hlo hon ⟨by omega, by omega⟩
          have hl73_ : (readS d.p d.la d.lo (x + 3)).length = 64 := by rw [hs73_]; exact sec_len h64 ⟨by omega, by omega⟩
          exact absurd he73_ h72
        · -- not: readE d.p d.la (x + 3) ≠ 0
          obtain ⟨hs74_, he74_⟩ := rd_sec (d := d) (n := x + 3) hlo hon ⟨by omega, by omega⟩
          have hl74_ : (readS d.p d.la d.lo (x + 3)).length = 64 := by rw [hs74_]; exact sec_len h64 ⟨by omega, by omega⟩
          refine wp_skip ?_
          refine t_norm (hK70 _ _ ?_)
          refine c_region ?_
          refine s_op (o_move (v := (S (readS d.p d.la d.lo (x + 3)))) rfl ?_)
          refine s_op (o_callf (vs := #[(.pointer (some ⟨b3, 0, none⟩)), (S (readS d.p d.la d.lo (x + 3)))]) ca103 rfl (args2 rfl rfl) (bws (hH68.front 2 rfl).all1 hB58 (readS d.p d.la d.lo (x + 3)) (by simp only [List.length_append, List.length_nil]; omega)) ?_)
          rintro _ w79 ⟨sg75, rfl, hB76, hX77⟩
          refine ⟨_, rfl, ?_⟩
          have hH78 : Has E w79 [sg75, sg, [Hp.one pb (.cells #[(.bool d.p.off), (.bool d.p.armed), (.int .i64 d.p.left), (.int .i64 d.p.uses)] 101 (0, 0))], [Hp.one tb (.cells #[(.pointer (some ⟨db, 0, none⟩)), (.int .i64 n)] 98 (0, 0))], R] := hX77.of_all1
          refine s_nil ?_
          refine b_norm ?_
          refine t_norm (hK64 _ _ ?_)
          refine c_region ?_
          refine s_op (o_add (a := 3) (b := 1) (c := 4) rfl rfl (by decide) ?_)
          refine s_op (o_move (v := (.int .i64 4)) rfl ?_)
          refine s_nil ?_
          refine t_norm (u_round ?_)
          refine wp_seq_k fun K80 hK80 => ?_
          refine c_region ?_
          refine s_op (o_lss (a := 4) (b := 4) rfl rfl ?_)
          refine s_nil ?_
          refine t_norm (hK80 _ _ ?_)
          refine wp_seq_k fun K81 hK81 => ?_
          refine c_false rfl rfl ?_
          refine wp_exit ?_
          refine t_exit (t_exit (x_in (?_)))
          refine t_norm (hK6 _ _ ?_)
          refine wp_seq_k fun K82 hK82 => ?_
          refine c_region ?_
          refine s_op (o_callf (vs := #[(.pointer (some ⟨b3, 0, none⟩))]) ca104 rfl (args1 rfl) (bstrK hH78.all1 hB76) ?_)
          rintro _ w88 ⟨a83, p84, c85, rfl, hX86⟩
          refine ⟨_, rfl, ?_⟩
          have hH87 : Has E w88 [[Hp.one b3 (.cells #[a83, (.slice p84 ((((([] : Bs) ++ (readS d.p d.la d.lo x)) ++ (readS d.p d.la d.lo (x + 1))) ++ (readS d.p d.la d.lo (x + 2))) ++ (readS d.p d.la d.lo (x + 3))).length c85)] 145 (0, 0))], sg, [Hp.one pb (.cells #[(.bool d.p.off), (.bool d.p.armed), (.int .i64 d.p.left), (.int .i64 d.p.uses)] 101 (0, 0))], [Hp.one tb (.cells #[(.pointer (some ⟨db, 0, none⟩)), (.int .i64 n)] 98 (0, 0))], R] := hX86.of_all1
          refine s_op (o_assign (v := (S ((((([] : Bs) ++ (readS d.p d.la d.lo x)) ++ (readS d.p d.la d.lo (x + 1))) ++ (readS d.p d.la d.lo (x + 2))) ++ (readS d.p d.la d.lo (x + 3))))) rfl ?_)
          refine s_op (o_assign (v := (.int .i64 0)) rfl ?_)
          refine s_nil ?_
          refine t_norm (hK82 _ _ ?_)
          refine wp_ret ?_
          refine c_ret2 Tryz.results63  (v := (S ((((([] : Bs) ++ (readS d.p d.la d.lo x)) ++ (readS d.p d.la d.lo (x + 1))) ++ (readS d.p d.la d.lo (x + 2))) ++ (readS d.p d.la d.lo (x + 3))))) rfl (x := (.int .i64 0)) rfl ?_
          have hH89 : Has E w88 [sg, [Hp.one pb (.cells #[(.bool d.p.off), (.bool d.p.armed), (.int .i64 d.p.left), (.int .i64 d.p.uses)] 101 (0, 0))], [Hp.one tb (.cells #[(.pointer (some ⟨db, 0, none⟩)), (.int .i64 n)] 98 (0, 0))], R] := ((((hH87.front 4 rfl).front 4 rfl).front 4 rfl).front 4 rfl).first 4 rfl
          exact ⟨by rw [hs20_, hs38_, hs56_, hs74_]; unfold pgB; simp only [List.nil_append, List.append_assoc], hH89⟩
end Go.Q
namespace Go.Q
section
variable {H : Type} {enc : TypeId × Value → H} {P : Program} {w : World} {t e : TypeId} {cs : List Value}
/-- These cells read as a value of the type. -/
def Rd (enc : TypeId × Value → H) (P : Program) (w : World) (t : TypeId) (cs : List Value) : Prop := ∃ fuel x, DataW.trod enc P w 0 (fun _ => true) true fuel t cs = some x
theorem rd_of {v : Value} {d : DataW H} {ps : List MemPlace} (h : DataW.Trod enc P w 0 (fun _ => true) true t v d ps) : Rd enc P w t v.cells.toList := ⟨h.choose, _, h.choose_spec⟩
theorem rd_string (ht : P.underlying t = some .string) (h : Rd enc P w t cs) : ∃ l : List UInt8, cs = [S l] ∧ l.length ≤ 9223372036854775807 := by
  obtain ⟨f, x, h⟩ := h
  obtain ⟨s, h1, _, h2⟩ := DataW.trod_string ht h
  exact ⟨s.data.toList, by rw [h1, S_of], by rw [show maxLen = 9223372036854775807 from rfl] at h2; exact h2⟩
theorem rd_bool (ht : P.underlying t = some .bool) (h : Rd enc P w t cs) : ∃ b, cs = [.bool b] := by
  obtain ⟨f, x, h⟩ := h
  cases f with
  | zero => simp [DataW.trod] at h
  | succ m =>
    unfold DataW.trod at h
    rw [ht] at h
    split at h <;> simp_all
theorem rd_struct {fs : Array Field} (ht : P.underlying t = some (.struct fs)) (h : Rd enc P w t cs) :
    cs.length = P.cellsOf t ∧ ∀ (i : Nat) (f : Field), fs[i]? = some f → Rd enc P w f.type ((cs.drop f.offset).take (P.cellsOf f.type)) := by
  obtain ⟨f, x, h⟩ := h
  obtain ⟨xs, n, _, _, h1, h2, h3⟩ := DataW.trod_struct ht h
  refine ⟨h1, fun i f hf => ?_⟩
  have hi : i < xs.length := by rw [h2]; exact (Array.getElem?_eq_some_iff.1 hf).1
  exact ⟨n, xs[i], by rw [h3 i f hf, List.getElem?_eq_getElem hi]⟩
theorem rd_field {fs : Array Field} {i k : Nat} {f : Field} {T : TypeId} {ds : List Value} (hf : ∀ (i : Nat) (f : Field), fs[i]? = some f → Rd enc P w f.type ((cs.drop f.offset).take (P.cellsOf f.type)))
    (h : fs[i]? = some f) (hT : f.type = T) (hc : P.cellsOf T = k) (hd : (cs.drop f.offset).take k = ds) : Rd enc P w T ds := by
  have g := hf i f h
  rw [hT, hc, hd] at g
  exact g
/-- a value of a type of one cell is its cell -/
theorem val_one {r : Reach} {b0 : Nat} {v u : Value} (hn : match P.underlying t with | some (.struct _) => False | some (.array _ _) => False | _ => True) (hval : Value.okWide P w r b0 t v) (h : v.cells.toList = [u]) : v = u := by
  cases v with
  | agg c =>
    unfold Value.okWide at hval
    cases hu : P.underlying t with
    | none => rw [hu] at hval; simp [Cell.okWide, Cell.ok, hu] at hval
    | some d => rw [hu] at hn hval; cases d <;> first | exact hn.elim | (simp [Cell.okWide, Cell.ok, hu] at hval)
  | _ => simpa [Value.cells] using h
end
end Go.Q
namespace Go.Q
section
variable {H : Type} {enc : TypeId × Value → H} {P : Program} {w : World} {t e : TypeId} {cs : List Value}
/-- These cells read as a value of the type, and each text and row in it is within the reach. -/
def RdS (enc : TypeId × Value → H) (P : Program) (w : World) (t : TypeId) (cs : List Value) : Prop := ∃ fuel x, DataW.trod enc P w 0 (fun _ => true) true fuel t cs = some x ∧ ∀ n ∈ DataW.weights P t x.1, n ≤ reachBytes
theorem RdS.rd (h : RdS enc P w t cs) : Rd enc P w t cs := let ⟨f, x, h, _⟩ := h; ⟨f, x, h⟩
end
end Go.Q
namespace Go.Q
structure DAct where
  kind : Int
  n : Int
  other : Bool
  dv : Value
  data : List Bs
  kv : Value
  keep : List Int
/-- An act whose rows read. -/
def DaOk (R : List Hp) (a : DAct) : Prop := Sl R 1 a.dv a.data.length (a.data.map sV) ∧ Ints R a.kv a.keep ∧ (∀ t ∈ a.data, t.length ≤ 140737488355328) ∧ -9223372036854775808 ≤ a.n ∧ a.n ≤ 9223372036854775807
theorem DaOk.mono {R R' : List Hp} {a : DAct} (h : DaOk R a) (hs : R ⊆ R') : DaOk R' a := ⟨h.1.mono hs, h.2.1.mono hs, h.2.2⟩
end Go.Q
namespace Go.Q
structure AAct where
  kind : Int
  at_ : Int
  size : Int
  dv : Value
  data : List Bs
  kv : Value
  keep : List Int
def AaOk (R : List Hp) (a : AAct) : Prop := Sl R 1 a.dv a.data.length (a.data.map sV) ∧ Ints R a.kv a.keep ∧ (∀ t ∈ a.data, t.length ≤ 140737488355328)
theorem AaOk.mono {R R' : List Hp} {a : AAct} (h : AaOk R a) (hs : R ⊆ R') : AaOk R' a := ⟨h.1.mono hs, h.2.1.mono hs, h.2.2⟩
end Go.Q
namespace Go.Q
open Go.Proofs Go.Shelf
set_option maxRecDepth 100000
def trl_ren : Go.Shelf.Ren := ⟨fun | 160 => 105 | 232 => 129 | 231 => 128 | 227 => 130 | 234 => 132 | 233 => 131 | 236 => 134 | 235 => 133 | 228 => 156 | 271 => 159 | 151 => 158 | 197 => 157 | 120 => 174 | 152 => 173 | 260 => 172 | 137 => 180 | 119 => 181 | 224 => 182 | 225 => 183 | 217 => 186 | 266 => 187 | n => n, fun | 9 => 9 | 4 => 4 | 3 => 3 | 5 => 5 | 117 => 176 | 116 => 175 | 0 => 0 | 124 => 179 | 21 => 21 | 105 => 198 | 46 => 52 | 119 => 217 | 139 => 220 | 138 => 219 | n => n, fun | 3 => 2 | 4 => 3 | n => n⟩
theorem trl : Go.Proofs.Lays.n160 Tryz.prog trl_ren := {
  mixed := by kernel_rfl
  f119 := Tryz.func181.trans (congrArg some (by kernel_rfl))
  f120 := Tryz.func174.trans (congrArg some (by kernel_rfl))
  f137 := Tryz.func180.trans (congrArg some (by kernel_rfl))
  f151 := Tryz.func158.trans (congrArg some (by kernel_rfl))
  f152 := Tryz.func173.trans (congrArg some (by kernel_rfl))
  f160 := Tryz.func105.trans (congrArg some (by kernel_rfl))
  f197 := Tryz.func157.trans (congrArg some (by kernel_rfl))
  f217 := Tryz.func186.trans (congrArg some (by kernel_rfl))
  f224 := Tryz.func182.trans (congrArg some (by kernel_rfl))
  f225 := Tryz.func183.trans (congrArg some (by kernel_rfl))
  f227 := Tryz.func130.trans (congrArg some (by kernel_rfl))
  f228 := Tryz.func156.trans (congrArg some (by kernel_rfl))
  f231 := Tryz.func128.trans (congrArg some (by kernel_rfl))
  f232 := Tryz.func129.trans (congrArg some (by kernel_rfl))
  f233 := Tryz.func131.trans (congrArg some (by kernel_rfl))
  f234 := Tryz.func132.trans (congrArg some (by kernel_rfl))
  f235 := Tryz.func133.trans (congrArg some (by kernel_rfl))
  f236 := Tryz.func134.trans (congrArg some (by kernel_rfl))
  f260 := Tryz.func172.trans (congrArg some (by kernel_rfl))
  f266 := Tryz.func187.trans (congrArg some (by kernel_rfl))
  f271 := Tryz.func159.trans (congrArg some (by kernel_rfl))
  t0 := Tryz.underlying0
  a0 := Tryz.isAgg0
  z0 := Tryz.sizeOf0
  v0 := Tryz.zeroValue0
  t3 := Tryz.underlying3
  a3 := Tryz.isAgg3
  z3 := Tryz.sizeOf3
  v3 := Tryz.zeroValue3
  t4 := Tryz.underlying4
  a4 := Tryz.isAgg4
  z4 := Tryz.sizeOf4
  v4 := Tryz.zeroValue4
  t5 := Tryz.underlying5
  a5 := Tryz.isAgg5
  z5 := Tryz.sizeOf5
  v5 := Tryz.zeroValue5
  t9 := Tryz.underlying9
  a9 := Tryz.isAgg9
  z9 := Tryz.sizeOf9
  v9 := Tryz.zeroValue9
  t21 := Tryz.underlying21
  a21 := Tryz.isAgg21
  z21 := Tryz.sizeOf21
  v21 := Tryz.zeroValue21
  t46 := Tryz.underlying52
  a46 := Tryz.isAgg52
  z46 := Tryz.sizeOf52
  v46 := Tryz.zeroValue52
  t105 := Tryz.underlying198
  a105 := Tryz.isAgg198
  z105 := Tryz.sizeOf198
  v105 := Tryz.zeroValue198
  t116 := Tryz.underlying175
  a116 := Tryz.isAgg175
  z116 := Tryz.sizeOf175
  t117 := Tryz.underlying176
  a117 := Tryz.isAgg176
  z117 := Tryz.sizeOf176
  v117 := Tryz.zeroValue176
  t119 := Tryz.underlying217
  a119 := Tryz.isAgg217
  z119 := Tryz.sizeOf217
  t124 := Tryz.underlying179
  a124 := Tryz.isAgg179
  z124 := Tryz.sizeOf179
  v124 := Tryz.zeroValue179
  t138 := Tryz.underlying219
  a138 := Tryz.isAgg219
  z138 := Tryz.sizeOf219
  v138 := Tryz.zeroValue219
  t139 := Tryz.underlying220
  a139 := Tryz.isAgg220
  z139 := Tryz.sizeOf220
  v139 := Tryz.zeroValue220
  g3 := by kernel_rfl
  g4 := by kernel_rfl }

theorem strim_c {E w : World} {R : List Hp} (hH : Has E w [R]) (s : Bs) (hs : s.length ≤ 1000000) : Calls Tryz.prog 105 #[S s, S [0]] w fun e w' => e = .returned (S (Lib.trimB s 0)) ∧ Has E w' [R] := by
  refine (Any.strings_Trim_one trl ⟨s.toArray⟩ 0 (by decide) w (by simp only [ByteArray.size, List.size_toArray]; omega)).mono fun e w' h => ?_
  obtain ⟨h1, h2⟩ := h
  refine ⟨by rw [h1]; rfl, ?_⟩
  rcases h2 with h2 | h2
  · rw [h2]; exact hH
  · rw [h2]; exact Has0.drew hH _
theorem dropZ {s : Bs} : s.dropWhile (· == 0) = [] ↔ ∀ b ∈ s, b = 0 := by
  induction s with
  | nil => simp
  | cons x t ih =>
    rw [List.dropWhile_cons]
    by_cases h : x = 0
    · rw [if_pos (by simpa using h), ih]; simp [h]
    · rw [if_neg (by simpa using h)]; simp [h]
theorem trim_zero {s : Bs} : Lib.trimB s 0 = [] ↔ s = List.replicate s.length 0 := by
  unfold Lib.trimB Lib.trimLeftB Lib.trimRightB
  rw [dropZ, List.eq_replicate_iff]
  constructor
  · intro h
    refine ⟨rfl, ?_⟩
    have h1 : ∀ b ∈ s.reverse.dropWhile (· == 0), b = 0 := fun b hb => h b (List.mem_reverse.2 hb)
    have h2 : s.reverse.dropWhile (· == 0) = [] := by
      cases e : s.reverse.dropWhile (· == 0) with
      | nil => rfl
      | cons x t =>
        have hx := h1 x (by rw [e]; exact List.mem_cons_self ..)
        have hn := List.head?_dropWhile_not (fun b : UInt8 => b == 0) s.reverse
        rw [e] at hn
        simp [hx] at hn
    intro b hb
    exact dropZ.1 h2 b (List.mem_reverse.2 hb)
  · rintro ⟨_, h⟩ b hb
    have := (List.dropWhile_sublist _).subset (List.mem_reverse.1 hb)
    exact h b (List.mem_reverse.1 this)
end Go.Q
namespace Go.Q
open Go.Proofs
set_option linter.unusedVariables false
set_option maxRecDepth 100000
attribute [local irreducible] wpList OK Code.wp
set_option maxHeartbeats 4000000 in
theorem tblank_c {E w : World} {R : List Hp} (hH : Has E w [R]) (s : Bs) (hs : s.length ≤ 1000000) :
    Calls Tryz.prog 65 #[(S s)] w fun e w' => e = .returned (.bool (decide (s = zer s.length))) ∧ Has E w' [R] := by
  refine c_enter (args := [(S s)]) Tryz.func65 rfl Tryz.ntmps65 (by simp) ?_
  refine wp_seq_k fun K1 hK1 => ?_
  refine c_region ?_
  refine s_op (o_assign (v := (.bool false)) rfl ?_)
  refine s_nil ?_
  refine t_norm (hK1 _ _ ?_)
  refine wp_seq_k fun K2 hK2 => ?_
  refine c_region ?_
  refine s_op (o_move (v := (S s)) rfl ?_)
  refine s_op (o_callf (vs := #[(S s), (S [0])]) ca105 rfl (args2 rfl rfl) (strim_c hH.all s (by omega)) ?_)
  rintro _ w5 ⟨rfl, hX3⟩
  refine ⟨_, rfl, ?_⟩
  have hH4 := hX3.of_all
  refine s_op (o_seql (a := (Lib.trimB s 0)) (b := ([] : List UInt8)) rfl rfl ?_)
  refine s_op (o_assign (v := (.bool (decide ((Lib.trimB s 0) = ([] : List UInt8))))) rfl ?_)
  refine s_nil ?_
  refine t_norm (hK2 _ _ ?_)
  refine wp_ret ?_
  refine c_ret1 Tryz.results65  (v := (.bool (decide ((Lib.trimB s 0) = ([] : List UInt8))))) rfl ?_
  exact ⟨by rw [show decide (s = zer s.length) = decide ((Lib.trimB s 0) = ([] : List UInt8)) from decide_eq_decide.2 trim_zero.symm], hH4⟩
end Go.Q
namespace Go.Q
open Go.Proofs
set_option linter.unusedVariables false
set_option maxRecDepth 100000
attribute [local irreducible] wpList OK Code.wp
set_option maxHeartbeats 4000000 in
theorem tpage_on {E w : World} {R sg : List Hp} {pb db tb : Nat} {d : Dv} {n : Int} (hH : Has E w [sg, [Hp.one pb (.cells #[(.bool d.p.off), (.bool d.p.armed), (.int .i64 d.p.left), (.int .i64 d.p.uses)] 101 (0, 0))], [Hp.one tb (.cells #[(.pointer (some ⟨db, 0, none⟩)), (.int .i64 n)] 98 (0, 0))], R]) (hd : DevAt pb sg db d.la d.lo) (hlo : d.lo = []) (hon : d.p.off = false) (h64 : Full64 d.la) (h4 : d.la.length ≤ 4096) (hn : 1 ≤ n ∧ n ≤ 64) (hln : 5 + n * 4 ≤ d.la.length) (hg : CellsAt R 1 0 nibV) {x : Int} (hx : 0 ≤ x ∧ x < n) :
    Calls Tryz.prog 24 #[(.pointer (some ⟨tb, 0, none⟩)), (.int .i64 x)] w fun e w' => ∃ v hs, e = .returned (.tuple #[.agg #[.int .i64 (pgOf (pgB d.la (plc x)) x).1.1, .int .i64 (pgOf (pgB d.la (plc x)) x).1.2.1, v], .int .i64 (pgOf (pgB d.la (plc x)) x).2]) ∧ Own 70 2 v (pgOf (pgB d.la (plc x)) x).1.2.2.length ((pgOf (pgB d.la (plc x)) x).1.2.2.flatMap ceC) hs ∧ Has E w' [hs, sg, [Hp.one pb (.cells #[(.bool d.p.off), (.bool d.p.armed), (.int .i64 d.p.left), (.int .i64 d.p.uses)] 101 (0, 0))], [Hp.one tb (.cells #[(.pointer (some ⟨db, 0, none⟩)), (.int .i64 n)] 98 (0, 0))], R] := by
  have hBl_ := pgB_len h64 (x := plc x) (by unfold plc; omega) (by unfold plc; omega)
  refine c_enter (args := [(.pointer (some ⟨tb, 0, none⟩)), (.int .i64 x)]) Tryz.func24 rfl Tryz.ntmps24 (by simp) ?_
  refine wp_seq_k fun K1 hK1 => ?_
  refine c_region ?_
  refine s_op (o_alloc (cs := #[(.int .i64 0), (.int .i64 0), (.slice none 0 0)]) ti36 rfl hH fun b2 w3 hH4 => ?_)
  refine s_op (o_assign (v := (.int .i64 0)) rfl ?_)
  refine s_nil ?_
  refine t_norm (hK1 _ _ ?_)
  refine wp_seq_k fun K5 hK5 => ?_
  refine wp_block ?_
  refine wp_seq_k fun K6 hK6 => ?_
  refine c_region ?_
  refine s_op (o_move (v := (.pointer (some ⟨tb, 0, none⟩))) rfl ?_)
  refine s_op (o_pnil (p := some _) Tryz.underlying25 rfl rfl ?_)
  refine s_op (o_assign (v := (.bool false)) rfl ?_)
  refine s_nil ?_
  refine t_norm (hK6 _ _ ?_)
  refine c_false rfl rfl ?_
  refine wp_seq_k fun K7 hK7 => ?_
  refine c_region ?_
  refine s_op (o_move (v := (.int .i64 x)) rfl ?_)
  refine s_op (o_lss (a := x) (b := 0) rfl rfl ?_)
  refine s_op (o_move (v := (.bool (decide (x < 0)))) rfl ?_)
  by_cases h8 : x < 0
  · -- x < 0
    exfalso; omega
  · -- not: x < 0
    refine s_on 17 rfl (congrArg Value.bool (decide_eq_false h8)) (o_move (v := (.int .i64 x)) rfl ?_)
    refine s_on 17 rfl (congrArg Value.bool (decide_eq_false h8)) (o_move (v := (.pointer (some ⟨tb, 0, none⟩))) rfl ?_)
    refine s_on 17 rfl (congrArg Value.bool (decide_eq_false h8)) (o_nilCheck rfl ?_)
    refine s_on 17 rfl (congrArg Value.bool (decide_eq_false h8)) (o_fieldAddr (k := 1) (fun _ => by kernel_rfl) rfl ?_)
    refine s_on 17 rfl (congrArg Value.bool (decide_eq_false h8)) (o_load1 (v := (.int .i64 n)) Tryz.underlying3 rfl rfl hH4 (seg_sub 3 rfl) (CellsAt.one rfl) ?_)
    refine s_on 17 rfl (congrArg Value.bool (decide_eq_false h8)) (o_geq (a := x) (b := n) rfl rfl ?_)
    refine s_op (o_pick_f (u := (.bool (decide (n ≤ x)))) ((rfl : _ = _).trans (congrArg Value.bool (decide_eq_false h8))) rfl ?_)
    refine s_op (o_assign (v := (.bool (decide (n ≤ x)))) rfl ?_)
    refine s_nil ?_
    refine t_norm (hK7 _ _ ?_)
    refine c_cond rfl (fun h9 => ?_) (fun h9 => ?_)
    · -- n ≤ x
      exfalso; omega
    · -- not: n ≤ x
      refine wp_skip ?_
      refine b_norm ?_
      refine t_norm (hK5 _ _ ?_)
      refine wp_seq_k fun K10 hK10 => ?_
      refine c_region ?_
      refine s_op (o_move (v := (.pointer (some ⟨tb, 0, none⟩))) rfl ?_)
      refine s_op (o_move (v := (.int .i64 x)) rfl ?_)
      refine s_op (o_callf (vs := #[(.int .i64 x)]) ca64 rfl (args1 rfl) (place_c hH4.all (x := x) ⟨by omega, by omega⟩) ?_)
      rintro _ w13 ⟨rfl, hX11⟩
      refine ⟨_, rfl, ?_⟩
      have hH12 := hX11.of_all
      refine s_op (o_callf (vs := #[(.pointer (some ⟨tb, 0, none⟩)), (.int .i64 (plc x))]) ca63 rfl (args2 rfl rfl) (tget_on (d := d) (n := n) (((hH12.front 3 rfl).front 3 rfl).front 3 rfl).all3 hd hlo hon h64 (x := plc x) (by unfold plc; exact ⟨by omega, by omega⟩) h4) ?_)
      rintro _ w16 ⟨rfl, hX14⟩
      refine ⟨_, rfl, ?_⟩
      have hH15 : Has E w16 [sg, [Hp.one pb (.cells #[(.bool d.p.off), (.bool d.p.armed), (.int .i64 d.p.left), (.int .i64 d.p.uses)] 101 (0, 0))], [Hp.one tb (.cells #[(.pointer (some ⟨db, 0, none⟩)), (.int .i64 n)] 98 (0, 0))], [Hp.one b2 (.cells #[(.int .i64 0), (.int .i64 0), (.slice none 0 0)] 36 (0, 0))], R] := hX14.of_all3
      refine s_op (o_move (v := (.tuple #[(S (pgB d.la (plc x))), (.int .i64 (0 : Int))])) rfl ?_)
      refine s_op (o_extract (v := (S (pgB d.la (plc x)))) rfl rfl ?_)
      refine s_op (o_extract (v := (.int .i64 (0 : Int))) rfl rfl ?_)
      refine s_op (o_assign (v := (S (pgB d.la (plc x)))) rfl ?_)
      refine s_op (o_assign (v := (.int .i64 (0 : Int))) rfl ?_)
      refine s_nil ?_
      refine t_norm (hK10 _ _ ?_)
      refine wp_seq_k fun K17 hK17 => ?_
      refine wp_seq_k fun K18 hK18 => ?_
      refine c_region ?_
      refine s_op (o_move (v := (.int .i64 (0 : Int))) rfl ?_)
      refine s_op (o_neq (a := (0 : Int)) (b := 0) rfl rfl ?_)
      refine s_nil ?_
      refine t_norm (hK18 _ _ ?_)
      refine c_cond rfl (fun h19 => ?_) (fun h19 => ?_)
      · -- (0 : Int) ≠ 0
        exact absurd rfl h19
      · -- not: (0 : Int) ≠ 0
        refine wp_skip ?_
        refine t_norm (hK17 _ _ ?_)
        refine wp_seq_k fun K20 hK20 => ?_
        refine wp_seq_k fun K21 hK21 => ?_
        refine c_region ?_
        refine s_op (o_move (v := (S (pgB d.la (plc x)))) rfl ?_)
        refine s_op (o_callf (vs := #[(S (pgB d.la (plc x)))]) ca65 rfl (args1 rfl) (tblank_c hH15.all (pgB d.la (plc x)) (by omega)) ?_)
        rintro _ w24 ⟨rfl, hX22⟩
        refine ⟨_, rfl, ?_⟩
        have hH23 := hX22.of_all
        refine s_nil ?_
        refine t_norm (hK21 _ _ ?_)
        refine c_cond rfl (fun h25 => ?_) (fun h25 => ?_)
        · -- (pgB d.la (plc x)) = zer (pgB d.la (plc x)).length
          refine wp_seq_k fun K26 hK26 => ?_
          refine c_region ?_
          refine s_op (o_move (v := (.int .i64 x)) rfl ?_)
          refine s_op (o_sight (v := (.agg #[(.int .i64 x), (.int .i64 0), (.slice none 0 0)])) (fun _ => by kernel_rfl) ?_)
          refine s_eff (o_storeN (vs := [(.int .i64 x), (.int .i64 0), (.slice none 0 0)]) (c' := #[(.int .i64 x), (.int .i64 0), (.slice none 0 0)]) ti36 rfl rfl rfl rfl (by intro u hu; simp only [List.mem_cons, List.not_mem_nil, or_false] at hu; rcases hu with rfl | rfl | rfl <;> first | rfl) (by simp) (by kernel_rfl) (hH23.front 3 rfl) fun w27 hH28 => ?_)
          refine s_op (o_assign (v := (.int .i64 0)) rfl ?_)
          refine s_nil ?_
          refine t_norm (hK26 _ _ ?_)
          refine wp_ret ?_
          refine t_ret (c_retC2 Tryz.results24 rfl (run_loadVarN (cs := [(.int .i64 x), (.int .i64 0), (.slice none 0 0)]) Tryz.underlying36 rfl ti36 hH28 (seg_sub 0 rfl) (CellsAt.one rfl)) (x := (.int .i64 0)) rfl ?_)
          have hH29 : Has E w27 [[], sg, [Hp.one pb (.cells #[(.bool d.p.off), (.bool d.p.armed), (.int .i64 d.p.left), (.int .i64 d.p.uses)] 101 (0, 0))], [Hp.one tb (.cells #[(.pointer (some ⟨db, 0, none⟩)), (.int .i64 n)] 98 (0, 0))], R] := (Has.nil ((((hH28.front 4 rfl).front 4 rfl).front 4 rfl).front 4 rfl)).first 5 rfl
          have hE_ : (pgOf (pgB d.la (plc x)) x) = _ := pg_blank h25 hBl_
          exact ⟨_, _, by rw [hE_], by rw [hE_]; exact (Own.nil 70 2), hH29⟩
        · -- not: (pgB d.la (plc x)) = zer (pgB d.la (plc x)).length
          refine wp_skip ?_
          refine t_norm (hK20 _ _ ?_)
          refine wp_seq_k fun K30 hK30 => ?_
          refine c_region ?_
          refine s_op (o_move (v := (S (pgB d.la (plc x)))) rfl ?_)
          refine s_op (o_callf (vs := #[(S (pgB d.la (plc x)))]) ca66 rfl (args1 rfl) (pread_c (s := (pgB d.la (plc x))) hH23.all (hg.mono (seg_sub 4 rfl))) ?_)
          rintro _ w36 ⟨v31, s32, rfl, ho33, hX34⟩
          refine ⟨_, rfl, ?_⟩
          have hH35 : Has E w36 [s32, sg, [Hp.one pb (.cells #[(.bool d.p.off), (.bool d.p.armed), (.int .i64 d.p.left), (.int .i64 d.p.uses)] 101 (0, 0))], [Hp.one tb (.cells #[(.pointer (some ⟨db, 0, none⟩)), (.int .i64 n)] 98 (0, 0))], [Hp.one b2 (.cells #[(.int .i64 0), (.int .i64 0), (.slice none 0 0)] 36 (0, 0))], R] := hX34.of_all1
          refine s_op (o_move (v := (.tuple #[(.agg #[(.int .i64 ((readP (pgB d.la (plc x))).2.1)), (.int .i64 ((readP (pgB d.la (plc x))).2.2.1)), v31]), (.bool ((readP (pgB d.la (plc x))).1))])) rfl ?_)
          refine s_op (o_extract (v := (.agg #[(.int .i64 ((readP (pgB d.la (plc x))).2.1)), (.int .i64 ((readP (pgB d.la (plc x))).2.2.1)), v31])) rfl rfl ?_)
          refine s_op (o_extract (v := (.bool ((readP (pgB d.la (plc x))).1))) rfl rfl ?_)
          refine s_op (o_alloc (cs := #[(.int .i64 0), (.int .i64 0), (.slice none 0 0)]) ti36 rfl hH35 fun b37 w38 hH39 => ?_)
          refine s_eff (o_storeN (vs := [(.int .i64 ((readP (pgB d.la (plc x))).2.1)), (.int .i64 ((readP (pgB d.la (plc x))).2.2.1)), v31]) (c' := #[(.int .i64 ((readP (pgB d.la (plc x))).2.1)), (.int .i64 ((readP (pgB d.la (plc x))).2.2.1)), v31]) ti36 rfl rfl rfl rfl (by intro u hu; simp only [List.mem_cons, List.not_mem_nil, or_false] at hu; rcases hu with rfl | rfl | rfl <;> first | rfl | exact ho33.one) (by simp) (by kernel_rfl) (hH39.front 0 rfl) fun w40 hH41 => ?_)
          refine s_op (o_assign (v := (.bool ((readP (pgB d.la (plc x))).1))) rfl ?_)
          refine s_nil ?_
          refine t_norm (hK30 _ _ ?_)
          refine wp_seq_k fun K42 hK42 => ?_
          refine wp_seq_k fun K43 hK43 => ?_
          refine c_region ?_
          refine s_op (o_move (v := (.bool ((readP (pgB d.la (plc x))).1))) rfl ?_)
          refine s_op (o_not rfl ?_)
          refine s_op (o_move (v := (.bool (!((readP (pgB d.la (plc x))).1)))) rfl ?_)
          rcases Bool.eq_false_or_eq_true (!((readP (pgB d.la (plc x))).1)) with h44 | h44
          · -- !((readP (pgB d.la (plc x))).1)
            have h44_n : ((readP (pgB d.la (plc x))).1) = false := by simpa using h44
            refine s_off (b' := true) 48 rfl (congrArg Value.bool h44) rfl ?_
            refine s_off (b' := true) 48 rfl (congrArg Value.bool h44) rfl ?_
            refine s_off (b' := true) 48 rfl (congrArg Value.bool h44) rfl ?_
            refine s_off (b' := true) 48 rfl (congrArg Value.bool h44) rfl ?_
            refine s_op (o_pick_t (u := (.bool true)) ((rfl : _ = _).trans (congrArg Value.bool h44)) rfl ?_)
            refine s_nil ?_
            refine t_norm (hK43 _ _ ?_)
            refine c_true rfl rfl ?_
            refine wp_seq_k fun K45 hK45 => ?_
            refine c_region ?_
            refine s_op (o_sight (v := (.agg #[(.int .i64 0), (.int .i64 0), (.slice none 0 0)])) (fun _ => by kernel_rfl) ?_)
            refine s_eff (o_storeN (vs := [(.int .i64 0), (.int .i64 0), (.slice none 0 0)]) (c' := #[(.int .i64 0), (.int .i64 0), (.slice none 0 0)]) ti36 rfl rfl rfl rfl (by intro u hu; simp only [List.mem_cons, List.not_mem_nil, or_false] at hu; rcases hu with rfl | rfl | rfl <;> first | rfl) (by simp) (by kernel_rfl) (hH41.front 5 rfl) fun w46 hH47 => ?_)
            refine s_op (o_assign (v := (.int .i64 9)) rfl ?_)
            refine s_nil ?_
            refine t_norm (hK45 _ _ ?_)
            refine wp_ret ?_
            refine t_ret (c_retC2 Tryz.results24 rfl (run_loadVarN (cs := [(.int .i64 0), (.int .i64 0), (.slice none 0 0)]) Tryz.underlying36 rfl ti36 hH47 (seg_sub 0 rfl) (CellsAt.one rfl)) (x := (.int .i64 9)) rfl ?_)
            have hH48 : Has E w46 [[], sg, [Hp.one pb (.cells #[(.bool d.p.off), (.bool d.p.armed), (.int .i64 d.p.left), (.int .i64 d.p.uses)] 101 (0, 0))], [Hp.one tb (.cells #[(.pointer (some ⟨db, 0, none⟩)), (.int .i64 n)] 98 (0, 0))], R] := (Has.nil ((((hH47.front 6 rfl).front 6 rfl).front 6 rfl).front 6 rfl)).first 5 rfl
            have hE_ : (pgOf (pgB d.la (plc x)) x) = _ := pg_bad h25 hBl_ (fun k => by first | exact absurd k.1 (by simpa using h44))
            exact ⟨_, _, by rw [hE_], by rw [hE_]; exact (Own.nil 70 2), hH48⟩
          · -- not: !((readP (pgB d.la (plc x))).1)
            have h44_n : ((readP (pgB d.la (plc x))).1) = true := by simpa using h44
            refine s_on 48 rfl (congrArg Value.bool h44) (o_fieldAddr (k := 0) (fun _ => by kernel_rfl) rfl ?_)
            refine s_on 48 rfl (congrArg Value.bool h44) (o_load1 (v := (.int .i64 ((readP (pgB d.la (plc x))).2.1))) Tryz.underlying3 rfl rfl hH41 (seg_sub 0 rfl) (CellsAt.one rfl) ?_)
            refine s_on 48 rfl (congrArg Value.bool h44) (o_move (v := (.int .i64 x)) rfl ?_)
            refine s_on 48 rfl (congrArg Value.bool h44) (o_neq (a := (readP (pgB d.la (plc x))).2.1) (b := x) rfl rfl ?_)
            refine s_op (o_pick_f (u := (.bool (decide ((readP (pgB d.la (plc x))).2.1 ≠ x)))) ((rfl : _ = _).trans (congrArg Value.bool h44)) rfl ?_)
            refine s_nil ?_
            refine t_norm (hK43 _ _ ?_)
            refine c_cond rfl (fun h49 => ?_) (fun h49 => ?_)
            · -- (readP (pgB d.la (plc x))).2.1 ≠ x
              refine wp_seq_k fun K50 hK50 => ?_
              refine c_region ?_
              refine s_op (o_sight (v := (.agg #[(.int .i64 0), (.int .i64 0), (.slice none 0 0)])) (fun _ => by kernel_rfl) ?_)
              refine s_eff (o_storeN (vs := [(.int .i64 0), (.int .i64 0), (.slice none 0 0)]) (c' := #[(.int .i64 0), (.int .i64 0), (.slice none 0 0)]) ti36 rfl rfl rfl rfl (by intro u hu; simp only [List.mem_cons, List.not_mem_nil, or_false] at hu; rcases hu with rfl | rfl | rfl <;> first | rfl) (by simp) (by kernel_rfl) (hH41.front 5 rfl) fun w51 hH52 => ?_)
              refine s_op (o_assign (v := (.int .i64 9)) rfl ?_)
              refine s_nil ?_
              refine t_norm (hK50 _ _ ?_)
              refine wp_ret ?_
              refine t_ret (c_retC2 Tryz.results24 rfl (run_loadVarN (cs := [(.int .i64 0), (.int .i64 0), (.slice none 0 0)]) Tryz.underlying36 rfl ti36 hH52 (seg_sub 0 rfl) (CellsAt.one rfl)) (x := (.int .i64 9)) rfl ?_)
              have hH53 : Has E w51 [[], sg, [Hp.one pb (.cells #[(.bool d.p.off), (.bool d.p.armed), (.int .i64 d.p.left), (.int .i64 d.p.uses)] 101 (0, 0))], [Hp.one tb (.cells #[(.pointer (some ⟨db, 0, none⟩)), (.int .i64 n)] 98 (0, 0))], R] := (Has.nil ((((hH52.front 6 rfl).front 6 rfl).front 6 rfl).front 6 rfl)).first 5 rfl
              have hE_ : (pgOf (pgB d.la (plc x)) x) = _ := pg_bad h25 hBl_ (fun k => by first | exact absurd k.1 (by simpa using h44) | exact h49 k.2)
              exact ⟨_, _, by rw [hE_], by rw [hE_]; exact (Own.nil 70 2), hH53⟩
            · -- not: (readP (pgB d.la (plc x))).2.1 ≠ x
              refine wp_skip ?_
              refine t_norm (hK42 _ _ ?_)
              refine wp_seq_k fun K54 hK54 => ?_
              refine c_region ?_
              refine s_op (o_loadN (cs := [(.int .i64 ((readP (pgB d.la (plc x))).2.1)), (.int .i64 ((readP (pgB d.la (plc x))).2.2.1)), v31]) Tryz.underlying36 rfl ti36 rfl hH41 (seg_sub 0 rfl) (CellsAt.one rfl) ?_)
              refine s_eff (o_storeN (vs := [(.int .i64 ((readP (pgB d.la (plc x))).2.1)), (.int .i64 ((readP (pgB d.la (plc x))).2.2.1)), v31]) (c' := #[(.int .i64 ((readP (pgB d.la (plc x))).2.1)), (.int .i64 ((readP (pgB d.la (plc x))).2.2.1)), v31]) ti36 rfl rfl rfl rfl (by intro u hu; simp only [List.mem_cons, List.not_mem_nil, or_false] at hu; rcases hu with rfl | rfl | rfl <;> first | rfl | exact ho33.one) (by simp) (by kernel_rfl) (hH41.front 5 rfl) fun w55 hH56 => ?_)
              refine s_op (o_assign (v := (.int .i64 0)) rfl ?_)
              refine s_nil ?_
              refine t_norm (hK54 _ _ ?_)
              refine wp_ret ?_
              refine c_retC2 Tryz.results24 rfl (run_loadVarN (cs := [(.int .i64 ((readP (pgB d.la (plc x))).2.1)), (.int .i64 ((readP (pgB d.la (plc x))).2.2.1)), v31]) Tryz.underlying36 rfl ti36 hH56 (seg_sub 0 rfl) (CellsAt.one rfl)) (x := (.int .i64 0)) rfl ?_
              have hH57 : Has E w55 [s32, sg, [Hp.one pb (.cells #[(.bool d.p.off), (.bool d.p.armed), (.int .i64 d.p.left), (.int .i64 d.p.uses)] 101 (0, 0))], [Hp.one tb (.cells #[(.pointer (some ⟨db, 0, none⟩)), (.int .i64 n)] 98 (0, 0))], R] := (((((hH56.front 6 rfl).front 6 rfl).front 6 rfl).front 6 rfl).front 6 rfl).first 5 rfl
              have hE_ : (pgOf (pgB d.la (plc x)) x) = _ := pg_read h25 hBl_ (by simpa using h44) (Classical.not_not.1 h49)
              exact ⟨_, _, by rw [hE_], by rw [hE_]; exact ho33, hH57⟩
end Go.Q
namespace Go.Q
/-- pages are as they are told, and nothing is under way -/
structure TsS (d : Dv) (n : Int) (now : List Pg) (B : Nat → Bs) : Prop where
  told : Told now B n.toNat
  tw : Tw d.la n.toNat B
  lo : d.lo = []
  off : d.p.off = false
  arm : d.p.armed = false
  full : Full64 d.la
theorem st1_ne6 {d : Dv} {n : Int} {a : Pg} (h1 : d.p.off = false) (h2 : d.p.armed = false) : (st1 d n a).1 ≠ 6 ∧ (st1 d n a).2.p.armed = false := by
  unfold st1
  split
  · exact ⟨(show (1 : Int) ≠ 6 by decide), h2⟩
  · have h := runs_ne6 (stG a.1 (lpg a)) d h1 h2
    exact ⟨h.1, h.2.2⟩
theorem lpg_ne {a : Pg} (h : pageR a.1 a.2.1 a.2.2.2 = true) : lpg a ≠ [] := fun e => by
  have h1 : (lpg a).length = 256 := laidP_len h
  rw [e] at h1; cases h1
theorem TsS.ok {d : Dv} {n : Int} {now : List Pg} {B : Nat → Bs} {a : Pg} (h0 : 0 ≤ n) (h : TsS d n now B) (hr : pageR a.1 a.2.1 a.2.2.2 = true) (hn : ¬ n ≤ a.1) :
    0 ≤ a.1 ∧ (st1 d n a).1 = 0 ∧ TsS (st1 d n a).2 n (now.set a.1.toNat a) (updB B a.1.toNat (lpg a)) := by
  obtain ⟨m, rfl⟩ : ∃ m : Nat, n = (m : Int) := ⟨n.toNat, (Int.toNat_of_nonneg h0).symm⟩
  have hp := page_no hr
  have h6 := st1_ne6 (n := (m : Int)) (a := a) h.off h.arm
  have ht : Told now B m := by have h_ := h.told; rwa [Int.toNat_natCast] at h_
  have hw : Tw d.la m B := by have h_ := h.tw; rwa [Int.toNat_natCast] at h_
  have hq := st_spec (p := d.p) (a := a) hw h.off (lpg_ne hr) (by omega)
  rw [← Dv.eta0 h.lo] at hq
  rcases hq with ⟨q1, q4, q5, q6⟩ | ⟨q, _⟩
  · refine ⟨hp.1, q1, ⟨?_, by rw [Int.toNat_natCast]; exact q4, q5, q6, h6.2, full_st1 h.lo h.full⟩⟩
    rw [Int.toNat_natCast]
    exact ht.set (by omega) (by rw [show ((a.1.toNat : Nat) : Int) = a.1 by omega]; exact lpg_of (lpg_ne hr))
  · exact absurd q h6.1
theorem TsS.no {d : Dv} {n : Int} {a : Pg} (hr : pageR a.1 a.2.1 a.2.2.2 = false ∨ n ≤ a.1) : st1 d n a = (1, d) := by
  refine if_pos (hr.imp (fun h => laidP_no h) id)
theorem ts_start {p : Pw} {n : Int} {m : Nat} (h0 : 1 ≤ n) (hm : 5 + n * 4 ≤ (m : Int)) (ho : p.off = false) (ha : p.armed = false) : TsS ⟨p, List.replicate m blankS, []⟩ n (emptyS n.toNat) (fun _ => zer 256) :=
  ⟨told_start _, tw_start (by omega), rfl, ho, ha, fun s hs => by rw [(List.mem_replicate.1 hs).2]; rfl⟩
end Go.Q
namespace Go.Q
theorem Has.mid {E w : World} {a b c : List Hp} {ss : List (List Hp)} (H : Has E w ((a ++ (b ++ c)) :: ss)) : Has E w (b :: (a ++ c) :: ss) := by
  unfold Has at *
  refine Has0.perm H ?_
  simp only [List.flatten_cons, List.append_assoc]
  exact List.perm_append_comm_assoc b a _
theorem Has.mid' {E w : World} {a b c : List Hp} {ss : List (List Hp)} (H : Has E w (b :: (a ++ c) :: ss)) : Has E w ((a ++ (b ++ c)) :: ss) := by
  unfold Has at *
  refine Has0.perm H ?_
  simp only [List.flatten_cons, List.append_assoc]
  exact List.perm_append_comm_assoc a b _
def bpV (b : Nat) : Value := .pointer (some ⟨b, 0, none⟩)
/- An object's heaplets as one, and told apart. -/
theorem Has.cl2 {E w : World} {a b : List Hp} {ss : List (List Hp)} (H : Has E w (a :: b :: ss)) : Has E w ((a ++ b) :: ss) := by
  unfold Has at *; simpa only [List.flatten_cons, List.append_assoc] using H
theorem Has.op2 {E w : World} {a b : List Hp} {ss : List (List Hp)} (H : Has E w ((a ++ b) :: ss)) : Has E w (a :: b :: ss) := by
  unfold Has at *; simpa only [List.flatten_cons, List.append_assoc] using H
theorem Has.cl3 {E w : World} {a b c : List Hp} {ss : List (List Hp)} (H : Has E w (a :: b :: c :: ss)) : Has E w ((a ++ (b ++ c)) :: ss) := by
  unfold Has at *; simpa only [List.flatten_cons, List.append_assoc] using H
theorem Has.op3 {E w : World} {a b c : List Hp} {ss : List (List Hp)} (H : Has E w ((a ++ (b ++ c)) :: ss)) : Has E w (a :: b :: c :: ss) := by
  unfold Has at *; simpa only [List.flatten_cons, List.append_assoc] using H
structure DEnt (κ σ : Type) where
  key : κ
  b : Nat
  sg : List Hp
  val : σ
section
variable {κ σ : Type} [DecidableEq κ]
/-- Where each object is. -/
def wher (L : List (DEnt κ σ)) : List (κ × Nat) := L.map fun x => (x.key, x.b)
def what (L : List (DEnt κ σ)) : List (κ × σ) := L.map fun x => (x.key, x.val)
def DirAt (gk : κ → Value) (At : Nat → List Hp → σ → Prop) (mb : Nat) (sg : List Hp) (t : List (κ × σ)) : Prop :=
  ∃ es c L, sg = [Hp.one mb (.map es c)] ++ L.flatMap (·.sg) ∧ MapV gk bpV es c (wher L) ∧ (∀ x ∈ L, At x.b x.sg x.val) ∧ what L = t
def DirRd (gk : κ → Value) (Rd : List Hp → Nat → σ → Prop) (R : List Hp) (mb : Nat) (t : List (κ × σ)) : Prop :=
  ∃ es c L, Hp.one mb (.map es c) ∈ R ∧ MapV gk bpV es c (wher L) ∧ (∀ x ∈ L, Rd R x.b x.val) ∧ what L = t
/-- All but the object of one key, whose block is b. -/
def DirHole (gk : κ → Value) (At : Nat → List Hp → σ → Prop) (mb : Nat) (k : κ) (b : Nat) (sr : List Hp) (t : List (κ × σ)) : Prop :=
  ∃ es c A B v sx, sr = [Hp.one mb (.map es c)] ++ (A.flatMap (·.sg) ++ B.flatMap (·.sg)) ∧ MapV gk bpV es c (wher (A ++ ⟨k, b, sx, v⟩ :: B)) ∧ (∀ x ∈ A ++ B, At x.b x.sg x.val) ∧ what (A ++ ⟨k, b, sx, v⟩ :: B) = t
omit [DecidableEq κ] in
theorem DirRd.mono {gk : κ → Value} {Rd : List Hp → Nat → σ → Prop} {R R' : List Hp} {mb : Nat} {t : List (κ × σ)} (hm : ∀ {R R' : List Hp} {b : Nat} {v : σ}, Rd R b v → R ⊆ R' → Rd R' b v) (h : DirRd gk Rd R mb t) (hs : R ⊆ R') : DirRd gk Rd R' mb t := by
  obtain ⟨es, c, L, h1, h2, h3, h4⟩ := h
  exact ⟨es, c, L, hs h1, h2, fun x hx => hm (h3 x hx) hs, h4⟩
omit [DecidableEq κ] in
theorem DirAt.rd {gk : κ → Value} {At : Nat → List Hp → σ → Prop} {Rd : List Hp → Nat → σ → Prop} {mb : Nat} {sg : List Hp} {t : List (κ × σ)} (hm : ∀ {R R' : List Hp} {b : Nat} {v : σ}, Rd R b v → R ⊆ R' → Rd R' b v)
    (ha : ∀ {b : Nat} {sg : List Hp} {v : σ}, At b sg v → Rd sg b v) (h : DirAt gk At mb sg t) : DirRd gk Rd sg mb t := by
  obtain ⟨es, c, L, rfl, h2, h3, h4⟩ := h
  exact ⟨es, c, L, by simp, h2, fun x hx => hm (ha (h3 x hx)) fun y hy => List.mem_append_right _ (List.mem_flatMap.2 ⟨x, hx, hy⟩), h4⟩
omit [DecidableEq κ] in
theorem DirAt.new {gk : κ → Value} {At : Nat → List Hp → σ → Prop} {mb : Nat} : DirAt gk At mb [Hp.one mb (.map #[] 0)] ([] : List (κ × σ)) := ⟨#[], 0, [], by simp, MapV.nil, by simp, rfl⟩
theorem wher_get {k : κ} : ∀ {L : List (DEnt κ σ)} {b : Nat}, getB (wher L) k = some b → ∃ A v sx B, L = A ++ ⟨k, b, sx, v⟩ :: B ∧ getB (what L) k = some v
  | [], _, h => by simp [wher, getB] at h
  | x :: L, b, h => by
    rw [wher, List.map_cons, getB] at h
    by_cases e : k = x.key
    · rw [if_pos e] at h
      cases h
      refine ⟨[], x.val, x.sg, L, ?_, ?_⟩
      · rw [e]; rfl
      · rw [what, List.map_cons, getB, if_pos e]
    · rw [if_neg e] at h
      obtain ⟨A, v, sx, B, rfl, hv⟩ := wher_get (L := L) h
      refine ⟨x :: A, v, sx, B, rfl, ?_⟩
      rw [what, List.map_cons, getB, if_neg e]; exact hv
theorem wher_none {k : κ} : ∀ {L : List (DEnt κ σ)}, getB (wher L) k = none → getB (what L) k = none
  | [], _ => rfl
  | x :: L, h => by
    rw [wher, List.map_cons, getB] at h
    rw [what, List.map_cons, getB]
    split at h
    · cases h
    · rw [if_neg (by assumption)]; exact wher_none h
theorem put_mid {β : Type} {k : κ} {u v : β} : ∀ {A B : List (κ × β)}, k ∉ A.map (·.1) → putB (A ++ (k, u) :: B) k v = A ++ (k, v) :: B
  | [], B, _ => by simp [putB]
  | (a, x) :: A, B, h => by
    rw [List.map_cons, List.mem_cons, not_or] at h
    rw [List.cons_append, putB, if_neg h.1, put_mid h.2]; rfl
omit [DecidableEq κ] in
theorem what_keys (L : List (DEnt κ σ)) : (what L).map (·.1) = (wher L).map (·.1) := by simp [what, wher, Function.comp_def]
omit [DecidableEq κ] in
theorem mid_notin {β : Type} {k : κ} {u : β} {A B : List (κ × β)} (h : ((A ++ (k, u) :: B).map (·.1)).Nodup) : k ∉ A.map (·.1) := by
  rw [List.map_append, List.nodup_append] at h
  intro g
  exact h.2.2 k g k (by simp) rfl
omit [DecidableEq κ] in
theorem DirAt.nodup {gk : κ → Value} {At : Nat → List Hp → σ → Prop} {mb : Nat} {sg : List Hp} {t : List (κ × σ)} (h : DirAt gk At mb sg t) : (t.map (·.1)).Nodup := by
  obtain ⟨es, c, L, _, h2, _, rfl⟩ := h
  rw [what_keys]; exact h2.nodup
omit [DecidableEq κ] in
theorem DirRd.nodup {gk : κ → Value} {Rd : List Hp → Nat → σ → Prop} {R : List Hp} {mb : Nat} {t : List (κ × σ)} (h : DirRd gk Rd R mb t) : (t.map (·.1)).Nodup := by
  obtain ⟨es, c, L, _, h2, _, rfl⟩ := h
  rw [what_keys]; exact h2.nodup
/-- The object is put back, changed or not. -/
theorem DirHole.close {gk : κ → Value} {At : Nat → List Hp → σ → Prop} {mb b : Nat} {k : κ} {sx sr : List Hp} {t : List (κ × σ)} {v : σ} {E w : World} {ss : List (List Hp)} (h : DirHole gk At mb k b sr t) (hx : At b sx v)
    (H : Has E w (sx :: sr :: ss)) : ∃ sg, DirAt gk At mb sg (putB t k v) ∧ Has E w (sg :: ss) := by
  obtain ⟨es, c, A, B, v0, sx0, rfl, h2, h3, rfl⟩ := h
  have hn : ((wher (A ++ ⟨k, b, sx0, v0⟩ :: B)).map (·.1)).Nodup := h2.nodup
  have hw : wher (A ++ ⟨k, b, sx, v⟩ :: B) = wher (A ++ ⟨k, b, sx0, v0⟩ :: B) := by simp [wher]
  refine ⟨_, ⟨es, c, A ++ ⟨k, b, sx, v⟩ :: B, rfl, by rw [hw]; exact h2, ?_, ?_⟩, ?_⟩
  · intro x hx'
    rcases List.mem_append.1 hx' with g | g
    · exact h3 x (List.mem_append_left _ g)
    · rcases List.mem_cons.1 g with rfl | g
      · exact hx
      · exact h3 x (List.mem_append_right _ g)
  · have e1 : what (A ++ ⟨k, b, sx0, v0⟩ :: B) = what A ++ (k, v0) :: what B := by simp [what]
    have e2 : what (A ++ ⟨k, b, sx, v⟩ :: B) = what A ++ (k, v) :: what B := by simp [what]
    rw [e1, e2, put_mid]
    refine mid_notin (u := v0) (B := what B) ?_
    rw [← e1, what_keys]; exact hn
  · have H' : Has E w (sx :: (([Hp.one mb (.map es c)] ++ A.flatMap (·.sg)) ++ B.flatMap (·.sg)) :: ss) := by rw [List.append_assoc]; exact H
    have := H'.mid'
    rw [List.append_assoc] at this
    simpa [List.flatMap_append] using this
theorem DirHole.get {gk : κ → Value} {At : Nat → List Hp → σ → Prop} {mb b : Nat} {k : κ} {sr : List Hp} {t : List (κ × σ)} (h : DirHole gk At mb k b sr t) : (getB t k).isSome = true := by
  obtain ⟨es, c, A, B, v0, sx0, rfl, h2, h3, rfl⟩ := h
  rw [getB_mem]; simp [what]
section ops
variable {P : Program} {ρ : Operand → Value} {E w : World} {ss : List (List Hp)} {K : Value → World → Prop} {dst : Option Tmp} {T : TypeId} {pos : String} {after : Array Edge} {g : Option (Nat × Bool)} {gk : κ → Value} {At : Nat → List Hp → σ → Prop} {Rd : List Hp → Nat → σ → Prop}
/-- A lookup that takes the object out. -/
theorem o_dirOut {x y : Operand} {t kt et : TypeId} {mb : Nat} {l : List (κ × σ)} {by_ : Nat} {k : κ} {sg : List Hp} (ht : P.underlying t = some (.map kt et)) (hk : KeyAt P kt gk) (hz : TI P et (.pointer none) 1 by_)
    (hx : ρ x = .map (some mb)) (hy : ρ y = gk k) (hd : DirAt gk At mb sg l) (H : Has E w (sg :: ss))
    (hN : getB l k = none → K (.pointer none) w) (hS : ∀ b v sx sr, getB l k = some v → At b sx v → DirHole gk At mb k b sr l → Has E w (sx :: sr :: ss) → K (.pointer (some ⟨b, 0, none⟩)) w) :
    OK P ⟨dst, .lookup t x y false, T, pos, after, g⟩ ρ w K := by
  obtain ⟨es, c, L, rfl, h2, h3, rfl⟩ := hd
  refine o_lookupB (L := [Hp.one mb (.map es c)]) ht hk hz hx hy H (fun z hz => by rw [List.mem_singleton.1 hz]; simp) rfl h2 ?_
  simp only [Bool.false_eq_true, if_false]
  cases hg : getB (wher L) k with
  | none => exact hN (wher_none hg)
  | some b =>
    obtain ⟨A, v, sx, B, e, hv⟩ := wher_get hg
    subst e
    refine hS b v sx _ hv (h3 ⟨k, b, sx, v⟩ (by simp)) ⟨es, c, A, B, v, sx, rfl, h2, fun y hy => h3 y ?_, rfl⟩ ?_
    · rcases List.mem_append.1 hy with g | g
      · exact List.mem_append_left _ g
      · exact List.mem_append_right _ (List.mem_cons_of_mem _ g)
    · have H' : Has E w ((([Hp.one mb (.map es c)] ++ A.flatMap (·.sg)) ++ (sx ++ B.flatMap (·.sg))) :: ss) := by
        simpa [List.flatMap_append, List.append_assoc] using H
      have := H'.mid
      rw [List.append_assoc] at this
      exact this
/-- An object is put under a new key: it stays outside. -/
theorem o_dirPut {x y u : Operand} {t kt et : TypeId} {mb b : Nat} {l : List (κ × σ)} {k : κ} {sg sx : List Hp} {v : σ} (ht : P.underlying t = some (.map kt et)) (hk : KeyAt P kt gk)
    (hx : ρ x = .map (some mb)) (hy : ρ y = gk k) (hu : ρ u = .pointer (some ⟨b, 0, none⟩)) (hd : DirAt gk At mb sg l) (hn : getB l k = none) (hv : At b sx v) (H : Has E w (sg :: sx :: ss))
    (hK : ∀ sr w', DirHole gk At mb k b sr (putB l k v) → Has E w' (sx :: sr :: ss) → K undef w') : OK P ⟨dst, .mapUpdate t x y u, T, pos, after, g⟩ ρ w K := by
  obtain ⟨es, c, L, rfl, h2, h3, rfl⟩ := hd
  have hnk : k ∉ (what L).map (·.1) := fun g => by have := getB_mem.2 g; rw [hn] at this; cases this
  have hnw : getB (wher L) k = none := getB_none (by rw [← what_keys]; exact hnk)
  have hlw : ∀ {β : Type} {m : List (κ × β)} {z : β}, k ∉ m.map (·.1) → putB m k z = m ++ [(k, z)] := fun {β m z} hm => by
    induction m with
    | nil => rfl
    | cons p m ih =>
      obtain ⟨a, y⟩ := p
      rw [List.map_cons, List.mem_cons, not_or] at hm
      rw [putB, if_neg hm.1, ih hm.2]; rfl
  refine o_mapUpdateB (f := bpV) (v := b) ht hk hx hy hu (ss := L.flatMap (·.sg) :: sx :: ss) H.cut h2 fun es' c' w' he hH => ?_
  rw [hlw (by rw [← what_keys]; exact hnk)] at he
  refine hK ([Hp.one mb (.map es' c')] ++ (L.flatMap (·.sg) ++ ([] : List (DEnt κ σ)).flatMap (·.sg))) w' ⟨es', c', L, [], v, sx, rfl, by simpa [wher] using he, by simpa using h3, ?_⟩ ?_
  · rw [hlw hnk]; simp [what]
  · have h4 := hH.front 2 rfl
    have h5 : Has E w' (sx :: ([Hp.one mb (.map es' c')] ++ L.flatMap (·.sg)) :: ss) := by
      have h6 : Has E w' (sx :: [Hp.one mb (.map es' c')] :: L.flatMap (·.sg) :: ss) := h4
      unfold Has at *; simpa using h6
    simpa using h5
end ops
end
end Go.Q
namespace Go.Q
structure Frm where
  no : Int
  gsn : Int
  cells : List Cel
  dirty : Bool
  first : Int
  pins : Int
abbrev TwS := Dv × Int
structure PolS where
  tw : TwS
  room : Int
  fr : List (Int × Frm)
structure BxS where
  n : Int
def TwRd (_ : List Hp) (_ : Nat) (_ : TwS) : Prop := True
/-- pages that may be asked for -/
structure TwOk (t : TwS) : Prop where
  lo : t.1.lo = []
  off : t.1.p.off = false
  full : Full64 t.1.la
  le : t.1.la.length ≤ 4096
  n : 1 ≤ t.2 ∧ t.2 ≤ 64
  len : 5 + t.2 * 4 ≤ (t.1.la.length : Int)
def PO (t : TwS) (x : Int) : (Int × Int × List Cel) × Int := pgOf (pgB t.1.la (plc x)) x
def keysI {σ : Type} (t : List (Int × σ)) : List Int := (t.map (·.1)).mergeSort (fun x y => decide (x ≤ y))
theorem keysI_one {σ : Type} (k : Int) (f : σ) : keysI [(k, f)] = [k] := by unfold keysI; simp
def drC (p : Int × Int) : List Value := [iV p.1, iV p.2]
theorem drC_len (p : Int × Int) : (drC p).length = 2 := rfl
theorem one_drC (l : List (Int × Int)) : ∀ u ∈ l.flatMap drC, u.oneCell' = true := by
  intro u hu
  obtain ⟨p, _, hp⟩ := List.mem_flatMap.1 hu
  simp only [drC, List.mem_cons, List.not_mem_nil, or_false] at hp
  rcases hp with rfl | rfl <;> rfl
def pgF (f : Frm) : Pg := (f.no, f.gsn, .slice none 0 0, f.cells)
theorem pgOf_zer' {b : Bs} {k : Int} (h : b = zer 256) : pgOf b k = ((k, 0, []), 0) := if_pos h
/-- pages on a new device -/
def dm (m : Nat) : Dv := Dv.mk (Pw.mk false false (0 - ((m : Int) + 1)) (0 + ((m : Int) + 1))) (List.replicate m blankS) []
theorem dm_ok {n : Int} {m : Nat} (hn : 1 ≤ n ∧ n ≤ 64) (hm : 5 + n * 4 ≤ (m : Int)) (h4 : m ≤ 4096) : TwOk (dm m, n) :=
  ⟨rfl, rfl, fun s hs => by rw [(List.mem_replicate.1 hs).2]; rfl, by show (List.replicate m blankS).length ≤ 4096; rw [List.length_replicate]; exact h4, hn, by show 5 + n * 4 ≤ (((List.replicate m blankS).length : Nat) : Int); rw [List.length_replicate]; exact hm⟩
theorem dm_ts {n : Int} {m : Nat} (hn : 1 ≤ n) (hm : 5 + n * 4 ≤ (m : Int)) : TsS (dm m) n (emptyS n.toNat) (fun _ => zer 256) := ts_start hn hm rfl rfl
theorem dm_po {n x : Int} {m : Nat} (hn : 1 ≤ n) (hm : 5 + n * 4 ≤ (m : Int)) (h0 : 0 ≤ x) (hx : x < n) : PO (dm m, n) x = ((x, 0, []), 0) := by
  have h := (dm_ts hn hm).tw.pg x.toNat (by omega)
  rw [show ((x.toNat : Nat) : Int) = x by omega] at h
  unfold PO
  exact pgOf_zer' h
theorem args1c3 {ρ : Operand → Value} {a : Operand} {u x y z : Value} (h1 : ρ a = u) : #[] ++ #[a].map ρ ++ #[x, y, z] = #[u, x, y, z] := by simp [*]
theorem c_in {e : TypeId} {v : Value} {l : List Cel} {hs L : List Hp} {a b : Int} (h : Own e 2 v l.length (l.flatMap ceC) hs) (hs' : hs ⊆ L) : PgIn L ((a, b, v, l) : Pg) := (Own.sl h).mono hs'
theorem putB_me {κ β : Type} [DecidableEq κ] {k : κ} {e : β} : ∀ {t : List (κ × β)}, getB t k = some e → putB t k e = t
  | [], h => by simp [getB] at h
  | (a, x) :: t, h => by
    rw [getB] at h
    rw [putB]
    split
    · rename_i g; rw [if_pos g] at h; cases h; rw [g]
    · rename_i g; rw [if_neg g] at h; rw [putB_me h]
theorem putB_twice {κ β : Type} [DecidableEq κ] (k : κ) (u v : β) : ∀ l : List (κ × β), putB (putB l k u) k v = putB l k v
  | [] => by simp [putB]
  | (a, x) :: l => by
    rw [putB, putB]
    split
    · rw [putB, if_pos rfl]
    · rename_i g; rw [putB, if_neg g, putB_twice k u v l]
section ops
variable {P : Program} {ρ : Operand → Value} {E w : World} {ss : List (List Hp)} {K : Value → World → Prop} {dst : Option Tmp} {T : TypeId} {pos : String} {after : Array Edge} {g : Option (Nat × Bool)} {κ σ : Type} [DecidableEq κ] {gk : κ → Value} {Rd : List Hp → Nat → σ → Prop}
omit [DecidableEq κ] in
theorem o_dirLen {x : Operand} {t kt et : TypeId} {mb : Nat} {R : List Hp} {l : List (κ × σ)} (ht : P.underlying t = some (.map kt et)) (hx : ρ x = .map (some mb)) (hd : DirRd gk Rd R mb l) (H : Has E w ss) (hR : R ⊆ ss.flatten) (hK : K (.int .i64 l.length) w) :
    OK P ⟨dst, .call ⟨.builtin .len, #[x], #[t]⟩, T, pos, after, g⟩ ρ w K := by
  obtain ⟨es, c, L, h1, h2, h3, rfl⟩ := hd
  refine o_lenMap (L := [Hp.one mb (.map es c)]) ht hx H (fun z hz => by rw [List.mem_singleton.1 hz]; exact hR h1) rfl h2 ?_
  have e : (wher L).length = (what L).length := by simp [wher, what]
  rw [e]; exact hK
end ops
end Go.Q
namespace Go.Q
open Go.Proofs
set_option linter.unusedVariables false
set_option maxRecDepth 100000
attribute [local irreducible] wpList OK Code.wp
def TwAt (tb : Nat) (sg : List Hp) (v : TwS) : Prop := ∃ (pb db : Nat) (sd : List Hp), sg = sd ++ ([Hp.one pb (.cells #[(.bool v.1.p.off), (.bool v.1.p.armed), (.int .i64 v.1.p.left), (.int .i64 v.1.p.uses)] 101 (0, 0))] ++ [Hp.one tb (.cells #[(.pointer (some ⟨db, 0, none⟩)), (.int .i64 v.2)] 98 (0, 0))]) ∧ DevAt pb sd db v.1.la v.1.lo
theorem TwAt.rd {b : Nat} {sg : List Hp} {v : TwS} (_ : TwAt b sg v) : TwRd sg b v := trivial
theorem TwAt.mk {E w : World} {ss : List (List Hp)} {pb db tb : Nat} {sd : List Hp} {v : TwS} (hd : DevAt pb sd db v.1.la v.1.lo) (hH : Has E w (sd :: [Hp.one pb (.cells #[(.bool v.1.p.off), (.bool v.1.p.armed), (.int .i64 v.1.p.left), (.int .i64 v.1.p.uses)] 101 (0, 0))] :: [Hp.one tb (.cells #[(.pointer (some ⟨db, 0, none⟩)), (.int .i64 v.2)] 98 (0, 0))] :: ss)) : TwAt tb (sd ++ ([Hp.one pb (.cells #[(.bool v.1.p.off), (.bool v.1.p.armed), (.int .i64 v.1.p.left), (.int .i64 v.1.p.uses)] 101 (0, 0))] ++ [Hp.one tb (.cells #[(.pointer (some ⟨db, 0, none⟩)), (.int .i64 v.2)] 98 (0, 0))])) v ∧ Has E w ((sd ++ ([Hp.one pb (.cells #[(.bool v.1.p.off), (.bool v.1.p.armed), (.int .i64 v.1.p.left), (.int .i64 v.1.p.uses)] 101 (0, 0))] ++ [Hp.one tb (.cells #[(.pointer (some ⟨db, 0, none⟩)), (.int .i64 v.2)] 98 (0, 0))])) :: ss) := ⟨⟨pb, db, sd, rfl, hd⟩, hH.cl3⟩
theorem tpw_on {E w : World} {R sg : List Hp} {tb : Nat} {v : TwS} (hH : Has E w [sg, R]) (ht : TwAt tb sg v) (hok : TwOk v) (hg : CellsAt R 1 0 nibV) {x : Int} (hx : 0 ≤ x ∧ x < v.2) :
    Calls Tryz.prog 24 #[.pointer (some ⟨tb, 0, none⟩), .int .i64 x] w fun e w' => ∃ u hs, e = .returned (.tuple #[.agg #[.int .i64 (PO v x).1.1, .int .i64 (PO v x).1.2.1, u], .int .i64 (PO v x).2]) ∧ Own 70 2 u (PO v x).1.2.2.length ((PO v x).1.2.2.flatMap ceC) hs ∧ Has E w' [hs, sg, R] := by
  obtain ⟨pb, db, sd, rfl, hd⟩ := ht
  refine (tpage_on hH.op3 hd hok.lo hok.off hok.full hok.le hok.n hok.len hg hx).mono fun e w' ⟨u, hs, h1, h2, h3⟩ => ⟨u, hs, h1, h2, ?_⟩
  have h4 := h3.front 1 rfl
  unfold Has at *; simpa only [List.flatten_cons, List.append_assoc] using h3
theorem tsw_c {E w : World} {R sg : List Hp} {tb : Nat} {v : TwS} (hH : Has E w [sg, R]) (ht : TwAt tb sg v) (hok : TwOk v) {k : Nat} (hf : Few v.1.p k) (hk : k ≤ 800000) (hg : CellsAt R 1 0 nibV) {u : Value} {a : Pg} (hv : Sl R 3 u [a].length ([a].flatMap pgC)) (hin : PgIn R a) :
    Calls Tryz.prog 18 #[.pointer (some ⟨tb, 0, none⟩), u] w fun e w' => ∃ sg', e = .returned (.int .i64 (st1 v.1 v.2 a).1) ∧ TwAt tb sg' ((st1 v.1 v.2 a).2, v.2) ∧ Has E w' [sg', R] := by
  obtain ⟨pb, db, sd, rfl, hd⟩ := ht
  exact (tstore1_c hH.op3 hd hf hk hok.lo hok.le hg hv hin).mono fun e w' ⟨sg', h1, h2, h3⟩ => ⟨_, h1, ⟨pb, db, sg', rfl, h2⟩, h3.cl3⟩
def FrmAt (b : Nat) (sg : List Hp) (v : Frm) : Prop := ∃ (x2 : Value) (h2 : List Hp), sg = ([Hp.one b (.cells #[(.int .i64 v.no), (.int .i64 v.gsn), x2, (.bool v.dirty), (.int .i64 v.first), (.int .i64 v.pins)] 126 (0, 0))] ++ h2) ∧ (Own 70 2 x2 v.cells.length (v.cells.flatMap ceC) h2)
def FrmRd (R : List Hp) (b : Nat) (v : Frm) : Prop := ∃ (x2 : Value), CellsAt R b 0 [(.int .i64 v.no), (.int .i64 v.gsn), x2, (.bool v.dirty), (.int .i64 v.first), (.int .i64 v.pins)] ∧ (Sl R 2 x2 v.cells.length (v.cells.flatMap ceC))
theorem FrmAt.mk {b : Nat} {v : Frm} {x2 : Value} {h2 : List Hp} (f2 : Own 70 2 x2 v.cells.length (v.cells.flatMap ceC) h2) : FrmAt b (([Hp.one b (.cells #[(.int .i64 v.no), (.int .i64 v.gsn), x2, (.bool v.dirty), (.int .i64 v.first), (.int .i64 v.pins)] 126 (0, 0))] ++ h2)) v := ⟨_, _, rfl, f2⟩
theorem FrmRd.mk {R : List Hp} {b : Nat} {v : Frm} {x2 : Value} (hc : CellsAt R b 0 [(.int .i64 v.no), (.int .i64 v.gsn), x2, (.bool v.dirty), (.int .i64 v.first), (.int .i64 v.pins)]) (f2 : Sl R 2 x2 v.cells.length (v.cells.flatMap ceC)) : FrmRd R b v := ⟨_, hc, f2⟩
theorem FrmRd.mono {R R' : List Hp} {b : Nat} {v : Frm} (h : FrmRd R b v) (hs : R ⊆ R') : FrmRd R' b v := by
  obtain ⟨x2, hc, f2⟩ := h
  exact FrmRd.mk (hc.mono hs) (f2.mono hs)
theorem FrmAt.rd {b : Nat} {sg : List Hp} {v : Frm} (h : FrmAt b sg v) : FrmRd sg b v := by
  obtain ⟨x2, h2, rfl, f2⟩ := h
  exact FrmRd.mk ((CellsAt.one rfl).mono (fun _ g_ => List.mem_append_left _ g_)) (f2.sl.mono (fun _ g_ => List.mem_append_right _ (g_)))
def PolAt (b : Nat) (sg : List Hp) (v : PolS) : Prop := ∃ (x0 : Nat) (x2 : Nat) (h0 : List Hp) (h2 : List Hp), sg = ([Hp.one b (.cells #[(.pointer (some ⟨x0, 0, none⟩)), (.int .i64 v.room), (.map (some x2))] 81 (0, 0))] ++ (h0 ++ h2)) ∧ (TwAt x0 h0 v.tw) ∧ (DirAt iV FrmAt x2 h2 v.fr)
def PolRd (R : List Hp) (b : Nat) (v : PolS) : Prop := ∃ (x0 : Nat) (x2 : Nat), CellsAt R b 0 [(.pointer (some ⟨x0, 0, none⟩)), (.int .i64 v.room), (.map (some x2))] ∧ (TwRd R x0 v.tw) ∧ (DirRd iV FrmRd R x2 v.fr)
theorem PolAt.mk {b : Nat} {v : PolS} {x0 : Nat} {x2 : Nat} {h0 : List Hp} {h2 : List Hp} (f0 : TwAt x0 h0 v.tw) (f2 : DirAt iV FrmAt x2 h2 v.fr) : PolAt b (([Hp.one b (.cells #[(.pointer (some ⟨x0, 0, none⟩)), (.int .i64 v.room), (.map (some x2))] 81 (0, 0))] ++ (h0 ++ h2))) v := ⟨_, _, _, _, rfl, f0, f2⟩
theorem PolRd.mk {R : List Hp} {b : Nat} {v : PolS} {x0 : Nat} {x2 : Nat} (hc : CellsAt R b 0 [(.pointer (some ⟨x0, 0, none⟩)), (.int .i64 v.room), (.map (some x2))]) (f0 : TwRd R x0 v.tw) (f2 : DirRd iV FrmRd R x2 v.fr) : PolRd R b v := ⟨_, _, hc, f0, f2⟩
theorem PolRd.mono {R R' : List Hp} {b : Nat} {v : PolS} (h : PolRd R b v) (hs : R ⊆ R') : PolRd R' b v := by
  obtain ⟨x0, x2, hc, f0, f2⟩ := h
  exact PolRd.mk (hc.mono hs) trivial (DirRd.mono (Rd := FrmRd) FrmRd.mono f2 hs)
theorem PolAt.rd {b : Nat} {sg : List Hp} {v : PolS} (h : PolAt b sg v) : PolRd sg b v := by
  obtain ⟨x0, x2, h0, h2, rfl, f0, f2⟩ := h
  exact PolRd.mk ((CellsAt.one rfl).mono (fun _ g_ => List.mem_append_left _ g_)) trivial (DirRd.mono (Rd := FrmRd) FrmRd.mono (DirAt.rd (Rd := FrmRd) FrmRd.mono FrmAt.rd f2) (fun _ g_ => List.mem_append_right _ (List.mem_append_right _ (g_))))
def BxAt (b : Nat) (sg : List Hp) (v : BxS) : Prop := sg = [Hp.one b (.cells #[(.int .i64 v.n)] 3 (0, 0))]
def BxRd (R : List Hp) (b : Nat) (v : BxS) : Prop := CellsAt R b 0 [(.int .i64 v.n)]
theorem BxAt.mk {b : Nat} {v : BxS} : BxAt b ([Hp.one b (.cells #[(.int .i64 v.n)] 3 (0, 0))]) v := rfl
theorem BxRd.mk {R : List Hp} {b : Nat} {v : BxS} (hc : CellsAt R b 0 [(.int .i64 v.n)]) : BxRd R b v := hc
theorem BxRd.mono {R R' : List Hp} {b : Nat} {v : BxS} (h : BxRd R b v) (hs : R ⊆ R') : BxRd R' b v := by
  exact CellsAt.mono h hs
theorem BxAt.rd {b : Nat} {sg : List Hp} {v : BxS} (h : BxAt b sg v) : BxRd sg b v := by
  rw [show sg = _ from h]; exact CellsAt.one rfl
end Go.Q
namespace Go.Q
theorem sl_nil0 {L : List Hp} {sz n cap : Nat} {cs : List Value} (h : Sl L sz (.slice none n cap) n cs) : n = 0 := by
  obtain ⟨q, c, e, h1, h2, h3, h4⟩ := h
  cases e
  rcases Nat.eq_zero_or_pos n with h | h
  · exact h
  · obtain ⟨b, o, e, _⟩ := h4 h; cases e
end Go.Q
namespace Go.Q
open Go.Proofs
set_option linter.unusedVariables false
set_option maxRecDepth 100000
attribute [local irreducible] wpList OK Code.wp
set_option maxHeartbeats 4000000 in
theorem cclone_c_p {E w : World} {R : List Hp} (hH : Has E w [R]) {p : Option Addr} {cap : Nat} {l : List Cel} (hv : Sl R 2 (.slice p l.length cap) l.length (l.flatMap ceC)) (hl : l.length ≤ 1000000) :
    Calls Tryz.prog 112 #[(.slice p l.length cap)] w fun e w' => ∃ v' hs', e = .returned v' ∧ Own 70 2 v' l.length (l.flatMap ceC) hs' ∧ Has E w' [hs', R] := by
  refine c_enter (args := [(.slice p l.length cap)]) Tryz.func112 rfl Tryz.ntmps112 (by simp) ?_
  refine wp_seq_k fun K1 hK1 => ?_
  refine c_region ?_
  refine s_op (o_assign (v := (.slice none 0 0)) rfl ?_)
  refine s_nil ?_
  refine t_norm (hK1 _ _ ?_)
  refine wp_seq_k fun K2 hK2 => ?_
  refine wp_seq_k fun K3 hK3 => ?_
  refine c_region ?_
  refine s_op (o_move (v := (.slice p l.length cap)) rfl ?_)
  refine s_op (o_snil Tryz.underlying34 rfl rfl ?_)
  refine s_nil ?_
  refine t_norm (hK3 _ _ ?_)
  refine c_condb rfl (fun h4 => ?_) (fun h4 => ?_)
  · -- p.isNone
    refine wp_seq_k fun K5 hK5 => ?_
    refine c_region ?_
    refine s_op (o_assign (v := (.slice none 0 0)) rfl ?_)
    refine s_nil ?_
    refine t_norm (hK5 _ _ ?_)
    refine wp_ret ?_
    refine t_ret (c_ret1 Tryz.results112  (v := (.slice none 0 0)) rfl ?_)
    have e0 : l = [] := List.eq_nil_of_length_eq_zero (by obtain rfl : p = none := (by simpa using h4); exact sl_nil0 hv)
    subst e0
    exact ⟨_, _, rfl, Own.nil 70 2, Has.nil hH⟩
  · -- not: p.isNone
    refine wp_skip ?_
    refine t_norm (hK2 _ _ ?_)
    refine wp_seq_k fun K6 hK6 => ?_
    refine c_region ?_
    refine s_op (o_buildSlice (ps := #[]) (cells := #[]) Tryz.underlying34 ti70 (by decide) (parts0) (by kernel_rfl) hH fun b7 w8 hH9 => ?_)
    refine s_op (o_move (v := (.slice p l.length cap)) rfl ?_)
    refine s_op (o_append Tryz.underlying34 ti70 rfl (by decide) rfl (Own.lit (e := 70) (sz := 2) (n := 0) (b := b7) (cur := #[]) rfl (by decide)) rfl hv (hH9.front 0 rfl) (seg_sub 0 rfl) (one_ceC _) (by simp; omega) (by simp; omega) fun v10 s11 w13 ho12 hH14 => ?_)
    have ho12 : Own 70 2 v10 l.length (l.flatMap ceC) s11 := Own.appF (a := []) ho12
    refine s_op (o_assign (v := v10) rfl ?_)
    refine s_nil ?_
    refine t_norm (hK6 _ _ ?_)
    refine wp_ret ?_
    refine c_ret1 Tryz.results112  (v := v10) rfl ?_
    exact ⟨_, _, rfl, by simpa using ho12, hH14⟩
theorem cclone_c {E w : World} {R : List Hp} {v_l : Value} {l : List Cel} (hH : Has E w [R]) (h_l : Sl R 2 v_l l.length (l.flatMap ceC)) (hn : l.length ≤ 1000000) :
    Calls Tryz.prog 112 #[v_l] w fun e w' => ∃ v' hs', e = .returned v' ∧ Own 70 2 v' l.length (l.flatMap ceC) hs' ∧ Has E w' [hs', R] := by
  obtain ⟨p, cap, rfl⟩ := Sl.form h_l
  exact cclone_c_p hH h_l hn
set_option maxHeartbeats 4000000 in
theorem copied_c {E w : World} {R : List Hp} {no : Int} {gsn : Int} {v_l : Value} {l : List Cel}  (hH : Has E w [R]) (h_l : Sl R 2 v_l l.length (l.flatMap ceC)) (hl : l.length ≤ 1000000) :
    Calls Tryz.prog 76 #[(.agg #[(.int .i64 no), (.int .i64 gsn), v_l])] w fun e w' => ∃ (v1' : Value) (s2' : List Hp), e = .returned (.agg #[(.int .i64 no), (.int .i64 gsn), v1']) ∧ (Own 70 2 v1' l.length (l.flatMap ceC) s2') ∧ Has E w' [s2', R] := by
  have hln_ := h_l.le
  refine c_enter (args := [(.agg #[(.int .i64 no), (.int .i64 gsn), v_l])]) Tryz.func76 rfl Tryz.ntmps76 (by simp) ?_
  refine wp_seq_k fun K1 hK1 => ?_
  refine c_region ?_
  refine s_op (o_box (cs := #[(.int .i64 no), (.int .i64 gsn), v_l]) rfl rfl hH fun b2 w3 hH4 => ?_)
  refine s_op (o_alloc (cs := #[(.int .i64 0), (.int .i64 0), (.slice none 0 0)]) ti36 rfl hH4 fun b5 w6 hH7 => ?_)
  refine s_nil ?_
  refine t_norm (hK1 _ _ ?_)
  refine wp_seq_k fun K8 hK8 => ?_
  refine c_region ?_
  refine s_op (o_fieldAddr (k := 2) (fun _ => by kernel_rfl) rfl ?_)
  refine s_op (o_load1 (v := v_l) Tryz.underlying34 rfl rfl hH7 (seg_sub 1 rfl) (CellsAt.one rfl) ?_)
  refine s_op (o_callf (vs := #[v_l]) ca112 rfl (args1 rfl) (cclone_c (l := l) hH7.all (h_l.mono (seg_sub 2 rfl)) (by first | omega | (simp only []; omega) | (simp; done) | (simp; omega))) ?_)
  rintro _ w14 ⟨v9, s10, rfl, ho11, hX12⟩
  refine ⟨_, rfl, ?_⟩
  have hH13 : Has E w14 [s10, [Hp.one b5 (.cells #[(.int .i64 0), (.int .i64 0), (.slice none 0 0)] 36 (0, 0))], [Hp.one b2 (.cells #[(.int .i64 no), (.int .i64 gsn), v_l] 36 (0, 0))], R] := hX12.of_all1
  refine s_op (o_fieldAddr (k := 2) (fun _ => by kernel_rfl) rfl ?_)
  refine s_eff (o_store1 (c' := #[(.int .i64 no), (.int .i64 gsn), v9]) ti34 rfl rfl ho11.one (by simp) rfl (hH13.front 2 rfl) fun w15 hH16 => ?_)
  refine s_nil ?_
  refine t_norm (hK8 _ _ ?_)
  refine wp_seq_k fun K17 hK17 => ?_
  refine c_region ?_
  refine s_op (o_loadN (cs := [(.int .i64 no), (.int .i64 gsn), v9]) Tryz.underlying36 rfl ti36 rfl hH16 (seg_sub 0 rfl) (CellsAt.one rfl) ?_)
  refine s_eff (o_storeN (vs := [(.int .i64 no), (.int .i64 gsn), v9]) (c' := #[(.int .i64 no), (.int .i64 gsn), v9]) ti36 rfl rfl rfl rfl (by intro u hu; simp only [List.mem_cons, List.not_mem_nil, or_false] at hu; rcases hu with rfl | rfl | rfl <;> first | rfl | exact ho11.one) (by simp) (by kernel_rfl) (hH16.front 2 rfl) fun w18 hH19 => ?_)
  refine s_nil ?_
  refine t_norm (hK17 _ _ ?_)
  refine wp_ret ?_
  refine c_retC1 Tryz.results76 rfl (run_loadVarN (cs := [(.int .i64 no), (.int .i64 gsn), v9]) Tryz.underlying36 rfl ti36 hH19 (seg_sub 0 rfl) (CellsAt.one rfl)) ?_
  have hH20 : Has E w18 [s10, R] := ((hH19.front 3 rfl).front 3 rfl).first 2 rfl
  exact ⟨_, _, rfl, ho11, hH20⟩
set_option maxHeartbeats 4000000 in
theorem place_room {E w : World} {R : List Hp} {pl : Nat} {sg_pl : List Hp} {v : PolS}  (hH : Has E w [sg_pl, R]) (h_pl : PolAt pl sg_pl v) (hrm : (v.fr.length : Int) < v.room) :
    Calls Tryz.prog 77 #[(.pointer (some ⟨pl, 0, none⟩))] w fun e w' => ∃ (sg_pl' : List Hp), e = .returned (.bool true) ∧ (PolAt pl sg_pl' v) ∧ Has E w' [sg_pl', R] := by
  obtain ⟨x1, x2, s3, s4, rfl, f5, f6⟩ := h_pl
  have hH7 : Has E w [[Hp.one pl (.cells #[(.pointer (some ⟨x1, 0, none⟩)), (.int .i64 v.room), (.map (some x2))] 81 (0, 0))], s3, s4, R] := Has.op3 hH
  refine c_enter (args := [(.pointer (some ⟨pl, 0, none⟩))]) Tryz.func77 rfl Tryz.ntmps77 (by simp) ?_
  refine wp_seq_k fun K8 hK8 => ?_
  refine c_region ?_
  refine s_op (o_assign (v := (.bool false)) rfl ?_)
  refine s_nil ?_
  refine t_norm (hK8 _ _ ?_)
  refine wp_seq_k fun K9 hK9 => ?_
  refine wp_seq_k fun K10 hK10 => ?_
  refine Rest.region mixed (by kernel_rfl) ?_
  have hH11 : Has E { w with drawn := w.drawn + 1 } [[Hp.one pl (.cells #[(.pointer (some ⟨x1, 0, none⟩)), (.int .i64 v.room), (.map (some x2))] 81 (0, 0))], s3, s4, R] := Has0.drew hH7 _
  refine Rest.phaseA (fun w_ => Has E w_ [[Hp.one pl (.cells #[(.pointer (some ⟨x1, 0, none⟩)), (.int .i64 v.room), (.map (some x2))] 81 (0, 0))], s4]) 0 9 9 rfl (by decide) (by kernel_rfl) ?_
  refine a_op 0 rfl (by kernel_rfl) (fun w_ h_ => o_move (v := (.pointer (some ⟨pl, 0, none⟩))) rfl ⟨rfl, rfl⟩) ?_
  refine a_op 1 rfl (by kernel_rfl) (fun w_ h_ => o_nilCheck rfl ⟨rfl, rfl⟩) ?_
  refine a_op 2 rfl (by kernel_rfl) (fun w_ h_ => o_fieldAddr (k := 2) (fun _ => by kernel_rfl) rfl ⟨rfl, rfl⟩) ?_
  refine a_op 3 rfl (by kernel_rfl) (fun w_ h_ => o_load1 (v := (.map (some x2))) Tryz.underlying79 rfl rfl h_ (seg_sub 0 rfl) (CellsAt.one rfl) ⟨rfl, rfl⟩) ?_
  refine a_op 4 rfl (by kernel_rfl) (fun w_ h_ => o_dirLen Tryz.underlying79 rfl (DirAt.rd (Rd := FrmRd) FrmRd.mono FrmAt.rd f6) h_ (seg_sub 1 rfl) ⟨rfl, rfl⟩) ?_
  refine a_op 5 rfl (by kernel_rfl) (fun w_ h_ => o_move (v := (.pointer (some ⟨pl, 0, none⟩))) rfl ⟨rfl, rfl⟩) ?_
  refine a_op 6 rfl (by kernel_rfl) (fun w_ h_ => o_nilCheck rfl ⟨rfl, rfl⟩) ?_
  refine a_op 7 rfl (by kernel_rfl) (fun w_ h_ => o_fieldAddr (k := 1) (fun _ => by kernel_rfl) rfl ⟨rfl, rfl⟩) ?_
  refine a_op 8 rfl (by kernel_rfl) (fun w_ h_ => o_load1 (v := (.int .i64 v.room)) Tryz.underlying3 rfl rfl h_ (seg_sub 0 rfl) (CellsAt.one rfl) ⟨rfl, rfl⟩) ?_
  have hH12 : Has E { w with drawn := w.drawn + 1 } [[Hp.one pl (.cells #[(.pointer (some ⟨x1, 0, none⟩)), (.int .i64 v.room), (.map (some x2))] 81 (0, 0))], s4] := ((hH11.front 2 rfl).front 1 rfl).first 2 rfl
  refine a_done (by kernel_rfl) hH12 ?_
  refine r_op 9 rfl (by kernel_rfl) (o_lss (a := ((v.fr.length : Nat) : Int)) (b := v.room) rfl rfl ?_)
  refine Rest.done (by kernel_rfl) ?_
  refine t_norm (hK10 _ _ ?_)
  refine c_cond rfl (fun h13 => ?_) (fun h13 => ?_)
  · -- ((v.fr.length : Nat) : Int) < v.room
    refine wp_seq_k fun K14 hK14 => ?_
    refine c_region ?_
    refine s_op (o_assign (v := (.bool true)) rfl ?_)
    refine s_nil ?_
    refine t_norm (hK14 _ _ ?_)
    refine wp_ret ?_
    refine t_ret (c_ret1 Tryz.results77  (v := (.bool true)) rfl ?_)
    have hH15 : Has E { w with drawn := w.drawn + 1 } [([Hp.one pl (.cells #[(.pointer (some ⟨x1, 0, none⟩)), (.int .i64 v.room), (.map (some x2))] 81 (0, 0))] ++ (s3 ++ s4)), R] := Has.cl3 (((hH11.front 2 rfl).front 2 rfl).front 2 rfl)
    have hd16 : PolAt pl ([Hp.one pl (.cells #[(.pointer (some ⟨x1, 0, none⟩)), (.int .i64 v.room), (.map (some x2))] 81 (0, 0))] ++ (s3 ++ s4)) v := PolAt.mk (v := v) f5 f6
    exact ⟨_, rfl, hd16, hH15⟩
  · -- not: ((v.fr.length : Nat) : Int) < v.room
    exact absurd hrm h13
end Go.Q
namespace Go.Q
open Go.Proofs
set_option linter.unusedVariables false
set_option maxRecDepth 100000
attribute [local irreducible] wpList OK Code.wp
set_option maxHeartbeats 4000000 in
theorem get_hit {E w : World} {R : List Hp} {pl : Nat} {sg_pl : List Hp} {v : PolS} {no : Int} {f : Frm} (hH : Has E w [sg_pl, R]) (h_pl : PolAt pl sg_pl v) (hgf : getB v.fr no = some f) (hcl : f.cells.length ≤ 1000000) :
    Calls Tryz.prog 36 #[(.pointer (some ⟨pl, 0, none⟩)), (.int .i64 no)] w fun e w' => ∃ (v1' : Value) (s2' : List Hp) (sg_pl' : List Hp), e = .returned (.tuple #[(.agg #[(.int .i64 f.no), (.int .i64 f.gsn), v1']), (.int .i64 0)]) ∧ (Own 70 2 v1' f.cells.length (f.cells.flatMap ceC) s2') ∧ (PolAt pl sg_pl' v) ∧ Has E w' [s2', sg_pl', R] := by
  obtain ⟨x1, x2, s3, s4, rfl, f5, f6⟩ := h_pl
  have hH7 : Has E w [[Hp.one pl (.cells #[(.pointer (some ⟨x1, 0, none⟩)), (.int .i64 v.room), (.map (some x2))] 81 (0, 0))], s3, s4, R] := Has.op3 hH
  refine c_enter (args := [(.pointer (some ⟨pl, 0, none⟩)), (.int .i64 no)]) Tryz.func36 rfl Tryz.ntmps36 (by simp) ?_
  refine wp_seq_k fun K8 hK8 => ?_
  refine c_region ?_
  refine s_op (o_alloc (cs := #[(.int .i64 0), (.int .i64 0), (.slice none 0 0)]) ti36 rfl hH7 fun b9 w10 hH11 => ?_)
  refine s_op (o_assign (v := (.int .i64 0)) rfl ?_)
  refine s_nil ?_
  refine t_norm (hK8 _ _ ?_)
  refine wp_seq_k fun K12 hK12 => ?_
  refine wp_seq_k fun K13 hK13 => ?_
  refine c_region ?_
  refine s_op (o_move (v := (.pointer (some ⟨pl, 0, none⟩))) rfl ?_)
  refine s_op (o_pnil (p := some _) Tryz.underlying65 rfl rfl ?_)
  refine s_nil ?_
  refine t_norm (hK13 _ _ ?_)
  refine c_false rfl rfl ?_
  refine wp_skip ?_
  refine t_norm (hK12 _ _ ?_)
  refine wp_seq_k fun K14 hK14 => ?_
  refine wp_seq_k fun K15 hK15 => ?_
  refine c_region ?_
  refine s_op (o_move (v := (.pointer (some ⟨pl, 0, none⟩))) rfl ?_)
  refine s_op (o_nilCheck rfl ?_)
  refine s_op (o_fieldAddr (k := 2) (fun _ => by kernel_rfl) rfl ?_)
  refine s_op (o_load1 (v := (.map (some x2))) Tryz.underlying79 rfl rfl hH11 (seg_sub 1 rfl) (CellsAt.one rfl) ?_)
  refine s_op (o_move (v := (.int .i64 no)) rfl ?_)
  refine s_op (o_dirOut (k := no) Tryz.underlying79 (key_int Tryz.underlying3) ti123 rfl rfl f6 (hH11.front 3 rfl) (fun hN16 => ?_) (fun b18 v19 sx20 sr21 hS17 hx22 hh23 hH24 => ?_))
  · -- none
    exact absurd (Eq.trans (Eq.symm hgf) hN16) (by simp)
  · -- some
    have e_ : f = v19 := Option.some.inj (Eq.trans (Eq.symm hgf) hS17)
    subst e_
    refine s_op (o_assign (v := (.pointer (some ⟨b18, 0, none⟩))) rfl ?_)
    refine s_nil ?_
    refine t_norm (hK15 _ _ ?_)
    refine wp_seq_k fun K25 hK25 => ?_
    refine c_region ?_
    refine s_op (o_move (v := (.pointer (some ⟨b18, 0, none⟩))) rfl ?_)
    refine s_op (o_pnnil (p := some _) Tryz.underlying123 rfl rfl ?_)
    refine s_nil ?_
    refine t_norm (hK25 _ _ ?_)
    refine c_true rfl rfl ?_
    refine wp_seq_k fun K26 hK26 => ?_
    refine c_region ?_
    refine s_op (o_move (v := (.pointer (some ⟨b18, 0, none⟩))) rfl ?_)
    refine s_op (o_nilCheck rfl ?_)
    obtain ⟨x27, s28, rfl, f29⟩ := hx22
    have hH30 : Has E w10 [[Hp.one b18 (.cells #[(.int .i64 f.no), (.int .i64 f.gsn), x27, (.bool f.dirty), (.int .i64 f.first), (.int .i64 f.pins)] 126 (0, 0))], s28, sr21, [Hp.one b9 (.cells #[(.int .i64 0), (.int .i64 0), (.slice none 0 0)] 36 (0, 0))], [Hp.one pl (.cells #[(.pointer (some ⟨x1, 0, none⟩)), (.int .i64 v.room), (.map (some x2))] 81 (0, 0))], s3, R] := Has.op2 hH24
    refine s_op (o_fieldAddr (k := 0) (fun _ => by kernel_rfl) rfl ?_)
    refine s_op (o_loadN (cs := [(.int .i64 f.no), (.int .i64 f.gsn), x27]) Tryz.underlying36 rfl ti36 rfl hH30 (seg_sub 0 rfl) (CellsAt.one rfl) ?_)
    refine s_op (o_callf (vs := #[(.agg #[(.int .i64 f.no), (.int .i64 f.gsn), x27])]) ca76 rfl (args1 rfl) (copied_c (no := f.no) (gsn := f.gsn) (l := f.cells) hH30.all (f29.sl.mono (seg_sub 1 rfl)) (by first | omega | (simp only []; omega) | (simp; done) | (simp; omega))) ?_)
    rintro _ w36 ⟨v31, s32, rfl, ho33, hX34⟩
    refine ⟨_, rfl, ?_⟩
    have hH35 : Has E w36 [s32, [Hp.one b18 (.cells #[(.int .i64 f.no), (.int .i64 f.gsn), x27, (.bool f.dirty), (.int .i64 f.first), (.int .i64 f.pins)] 126 (0, 0))], s28, sr21, [Hp.one b9 (.cells #[(.int .i64 0), (.int .i64 0), (.slice none 0 0)] 36 (0, 0))], [Hp.one pl (.cells #[(.pointer (some ⟨x1, 0, none⟩)), (.int .i64 v.room), (.map (some x2))] 81 (0, 0))], s3, R] := hX34.of_all1
    refine s_eff (o_storeN (vs := [(.int .i64 f.no), (.int .i64 f.gsn), v31]) (c' := #[(.int .i64 f.no), (.int .i64 f.gsn), v31]) ti36 rfl rfl rfl rfl (by intro u hu; simp only [List.mem_cons, List.not_mem_nil, or_false] at hu; rcases hu with rfl | rfl | rfl <;> first | rfl | exact ho33.one) (by simp) (by kernel_rfl) (hH35.front 4 rfl) fun w37 hH38 => ?_)
    refine s_op (o_assign (v := (.int .i64 0)) rfl ?_)
    refine s_nil ?_
    refine t_norm (hK26 _ _ ?_)
    refine wp_ret ?_
    refine t_ret (c_retC2 Tryz.results36 rfl (run_loadVarN (cs := [(.int .i64 f.no), (.int .i64 f.gsn), v31]) Tryz.underlying36 rfl ti36 hH38 (seg_sub 0 rfl) (CellsAt.one rfl)) (x := (.int .i64 0)) rfl ?_)
    have hH39 : Has E w37 [([Hp.one b18 (.cells #[(.int .i64 f.no), (.int .i64 f.gsn), x27, (.bool f.dirty), (.int .i64 f.first), (.int .i64 f.pins)] 126 (0, 0))] ++ s28), [Hp.one b9 (.cells #[(.int .i64 f.no), (.int .i64 f.gsn), v31] 36 (0, 0))], s32, sr21, [Hp.one pl (.cells #[(.pointer (some ⟨x1, 0, none⟩)), (.int .i64 v.room), (.map (some x2))] 81 (0, 0))], s3, R] := Has.cl2 ((hH38.front 3 rfl).front 3 rfl)
    have hd40 : FrmAt b18 ([Hp.one b18 (.cells #[(.int .i64 f.no), (.int .i64 f.gsn), x27, (.bool f.dirty), (.int .i64 f.first), (.int .i64 f.pins)] 126 (0, 0))] ++ s28) f := FrmAt.mk (v := f) f29
    obtain ⟨sg41, hd42, hH43⟩ := DirHole.close hh23 hd40 ((hH39.front 3 rfl).front 1 rfl)
    have hd42 : DirAt iV FrmAt x2 sg41 (putB v.fr no f) := hd42
    have hH44 : Has E w37 [([Hp.one pl (.cells #[(.pointer (some ⟨x1, 0, none⟩)), (.int .i64 v.room), (.map (some x2))] 81 (0, 0))] ++ (s3 ++ sg41)), [Hp.one b9 (.cells #[(.int .i64 f.no), (.int .i64 f.gsn), v31] 36 (0, 0))], s32, R] := Has.cl3 ((hH43.front 4 rfl).front 4 rfl)
    have hd45 : PolAt pl ([Hp.one pl (.cells #[(.pointer (some ⟨x1, 0, none⟩)), (.int .i64 v.room), (.map (some x2))] 81 (0, 0))] ++ (s3 ++ sg41)) (⟨v.tw, v.room, (putB v.fr no f)⟩ : PolS) := PolAt.mk (v := (⟨v.tw, v.room, (putB v.fr no f)⟩ : PolS)) f5 hd42
    have q46 : v = (⟨v.tw, v.room, (putB v.fr no f)⟩ : PolS) := by rw [putB_me hgf]
    have hH47 : Has E w37 [s32, ([Hp.one pl (.cells #[(.pointer (some ⟨x1, 0, none⟩)), (.int .i64 v.room), (.map (some x2))] 81 (0, 0))] ++ (s3 ++ sg41)), R] := (((hH44.front 3 rfl).front 1 rfl).front 3 rfl).first 3 rfl
    exact ⟨_, _, _, rfl, ho33, (by rw [q46]; exact hd45), hH47⟩
set_option maxHeartbeats 4000000 in
theorem get_miss {E w : World} {R : List Hp} {pl : Nat} {sg_pl : List Hp} {v : PolS} {no : Int}  (hH : Has E w [sg_pl, R]) (h_pl : PolAt pl sg_pl v) (hg : CellsAt R 1 0 nibV) (hgn : getB v.fr no = none) (hrm : (v.fr.length : Int) < v.room) (hok : TwOk v.tw) (hno : 0 ≤ no ∧ no < v.tw.2) (hp0 : (PO v.tw no).2 = 0) (hpl : (PO v.tw no).1.2.2.length ≤ 1000000) :
    Calls Tryz.prog 36 #[(.pointer (some ⟨pl, 0, none⟩)), (.int .i64 no)] w fun e w' => ∃ (v1' : Value) (s2' : List Hp) (sg_pl' : List Hp), e = .returned (.tuple #[(.agg #[(.int .i64 ((PO v.tw no).1.1)), (.int .i64 ((PO v.tw no).1.2.1)), v1']), (.int .i64 0)]) ∧ (Own 70 2 v1' ((PO v.tw no).1.2.2).length (((PO v.tw no).1.2.2).flatMap ceC) s2') ∧ (PolAt pl sg_pl' (⟨v.tw, v.room, putB v.fr no ⟨(PO v.tw no).1.1, (PO v.tw no).1.2.1, (PO v.tw no).1.2.2, false, 0, 0⟩⟩ : PolS)) ∧ Has E w' [s2', sg_pl', R] := by
  obtain ⟨hno1_, hno2_⟩ := hno
  obtain ⟨x1, x2, s3, s4, rfl, f5, f6⟩ := h_pl
  have hH7 : Has E w [[Hp.one pl (.cells #[(.pointer (some ⟨x1, 0, none⟩)), (.int .i64 v.room), (.map (some x2))] 81 (0, 0))], s3, s4, R] := Has.op3 hH
  refine c_enter (args := [(.pointer (some ⟨pl, 0, none⟩)), (.int .i64 no)]) Tryz.func36 rfl Tryz.ntmps36 (by simp) ?_
  refine wp_seq_k fun K8 hK8 => ?_
  refine c_region ?_
  refine s_op (o_alloc (cs := #[(.int .i64 0), (.int .i64 0), (.slice none 0 0)]) ti36 rfl hH7 fun b9 w10 hH11 => ?_)
  refine s_op (o_assign (v := (.int .i64 0)) rfl ?_)
  refine s_nil ?_
  refine t_norm (hK8 _ _ ?_)
  refine wp_seq_k fun K12 hK12 => ?_
  refine wp_seq_k fun K13 hK13 => ?_
  refine c_region ?_
  refine s_op (o_move (v := (.pointer (some ⟨pl, 0, none⟩))) rfl ?_)
  refine s_op (o_pnil (p := some _) Tryz.underlying65 rfl rfl ?_)
  refine s_nil ?_
  refine t_norm (hK13 _ _ ?_)
  refine c_false rfl rfl ?_
  refine wp_skip ?_
  refine t_norm (hK12 _ _ ?_)
  refine wp_seq_k fun K14 hK14 => ?_
  refine wp_seq_k fun K15 hK15 => ?_
  refine c_region ?_
  refine s_op (o_move (v := (.pointer (some ⟨pl, 0, none⟩))) rfl ?_)
  refine s_op (o_nilCheck rfl ?_)
  refine s_op (o_fieldAddr (k := 2) (fun _ => by kernel_rfl) rfl ?_)
  refine s_op (o_load1 (v := (.map (some x2))) Tryz.underlying79 rfl rfl hH11 (seg_sub 1 rfl) (CellsAt.one rfl) ?_)
  refine s_op (o_move (v := (.int .i64 no)) rfl ?_)
  refine s_op (o_dirOut (k := no) Tryz.underlying79 (key_int Tryz.underlying3) ti123 rfl rfl f6 (hH11.front 3 rfl) (fun hN16 => ?_) (fun b18 v19 sx20 sr21 hS17 hx22 hh23 hH24 => ?_))
  · -- none
    refine s_op (o_assign (v := (.pointer none)) rfl ?_)
    refine s_nil ?_
    refine t_norm (hK15 _ _ ?_)
    refine wp_seq_k fun K25 hK25 => ?_
    refine c_region ?_
    refine s_op (o_move (v := (.pointer none)) rfl ?_)
    refine s_op (o_pnnil (p := none) Tryz.underlying123 rfl rfl ?_)
    refine s_nil ?_
    refine t_norm (hK25 _ _ ?_)
    refine c_false rfl rfl ?_
    refine wp_skip ?_
    refine t_norm (hK14 _ _ ?_)
    refine wp_seq_k fun K26 hK26 => ?_
    refine c_region ?_
    refine s_op (o_move (v := (.pointer (some ⟨pl, 0, none⟩))) rfl ?_)
    refine s_op (o_nilCheck rfl ?_)
    refine s_op (o_fieldAddr (k := 0) (fun _ => by kernel_rfl) rfl ?_)
    refine s_op (o_load1 (v := (.pointer (some ⟨x1, 0, none⟩))) Tryz.underlying25 rfl rfl hH11 (seg_sub 1 rfl) (CellsAt.one rfl) ?_)
    refine s_op (o_move (v := (.int .i64 no)) rfl ?_)
    refine s_op (o_callf (vs := #[(.pointer (some ⟨x1, 0, none⟩)), (.int .i64 no)]) ca24 rfl (args2 rfl rfl) (tpw_on (hH11.front 2 rfl).all1 f5 hok (hg.mono (seg_sub 3 rfl)) (x := no) (by omega)) ?_)
    rintro _ w32 ⟨v27, hs28, rfl, ho29, hX30⟩
    refine ⟨_, rfl, ?_⟩
    have hH31 : Has E w32 [hs28, s3, [Hp.one b9 (.cells #[(.int .i64 0), (.int .i64 0), (.slice none 0 0)] 36 (0, 0))], [Hp.one pl (.cells #[(.pointer (some ⟨x1, 0, none⟩)), (.int .i64 v.room), (.map (some x2))] 81 (0, 0))], s4, R] := hX30.of_all2
    refine s_op (o_move (v := (.tuple #[(.agg #[(.int .i64 ((PO v.tw no).1.1)), (.int .i64 ((PO v.tw no).1.2.1)), v27]), (.int .i64 ((PO v.tw no).2))])) rfl ?_)
    refine s_op (o_extract (v := (.agg #[(.int .i64 ((PO v.tw no).1.1)), (.int .i64 ((PO v.tw no).1.2.1)), v27])) rfl rfl ?_)
    refine s_op (o_extract (v := (.int .i64 ((PO v.tw no).2))) rfl rfl ?_)
    refine s_op (o_alloc (cs := #[(.int .i64 0), (.int .i64 0), (.slice none 0 0)]) ti36 rfl hH31 fun b33 w34 hH35 => ?_)
    refine s_eff (o_storeN (vs := [(.int .i64 ((PO v.tw no).1.1)), (.int .i64 ((PO v.tw no).1.2.1)), v27]) (c' := #[(.int .i64 ((PO v.tw no).1.1)), (.int .i64 ((PO v.tw no).1.2.1)), v27]) ti36 rfl rfl rfl rfl (by intro u hu; simp only [List.mem_cons, List.not_mem_nil, or_false] at hu; rcases hu with rfl | rfl | rfl <;> first | rfl | exact ho29.one) (by simp) (by kernel_rfl) (hH35.front 0 rfl) fun w36 hH37 => ?_)
    refine s_op (o_assign (v := (.int .i64 ((PO v.tw no).2))) rfl ?_)
    refine s_nil ?_
    refine t_norm (hK26 _ _ ?_)
    refine wp_seq_k fun K38 hK38 => ?_
    refine wp_seq_k fun K39 hK39 => ?_
    refine c_region ?_
    refine s_op (o_move (v := (.int .i64 ((PO v.tw no).2))) rfl ?_)
    refine s_op (o_neq (a := (PO v.tw no).2) (b := 0) rfl rfl ?_)
    refine s_nil ?_
    refine t_norm (hK39 _ _ ?_)
    refine c_cond rfl (fun h40 => ?_) (fun h40 => ?_)
    · -- (PO v.tw no).2 ≠ 0
      exact absurd hp0 h40
    · -- not: (PO v.tw no).2 ≠ 0
      refine wp_skip ?_
      refine t_norm (hK38 _ _ ?_)
      refine wp_seq_k fun K41 hK41 => ?_
      refine wp_seq_k fun K42 hK42 => ?_
      refine c_region ?_
      refine s_op (o_move (v := (.pointer (some ⟨pl, 0, none⟩))) rfl ?_)
      have hH43 : Has E w36 [([Hp.one pl (.cells #[(.pointer (some ⟨x1, 0, none⟩)), (.int .i64 v.room), (.map (some x2))] 81 (0, 0))] ++ (s3 ++ s4)), [Hp.one b33 (.cells #[(.int .i64 ((PO v.tw no).1.1)), (.int .i64 ((PO v.tw no).1.2.1)), v27] 36 (0, 0))], hs28, [Hp.one b9 (.cells #[(.int .i64 0), (.int .i64 0), (.slice none 0 0)] 36 (0, 0))], R] := Has.cl3 (((hH37.front 5 rfl).front 3 rfl).front 5 rfl)
      have hd44 : PolAt pl ([Hp.one pl (.cells #[(.pointer (some ⟨x1, 0, none⟩)), (.int .i64 v.room), (.map (some x2))] 81 (0, 0))] ++ (s3 ++ s4)) v := PolAt.mk (v := v) f5 f6
      refine s_op (o_callf (vs := #[(.pointer (some ⟨pl, 0, none⟩))]) ca77 rfl (args1 rfl) (place_room (v := v) hH43.all1 hd44 hrm) ?_)
      rintro _ w49 ⟨sg45, rfl, hd46, hX47⟩
      refine ⟨_, rfl, ?_⟩
      have hH48 : Has E w49 [sg45, [Hp.one b33 (.cells #[(.int .i64 ((PO v.tw no).1.1)), (.int .i64 ((PO v.tw no).1.2.1)), v27] 36 (0, 0))], hs28, [Hp.one b9 (.cells #[(.int .i64 0), (.int .i64 0), (.slice none 0 0)] 36 (0, 0))], R] := hX47.of_all1
      refine s_op (o_not rfl ?_)
      refine s_nil ?_
      refine t_norm (hK42 _ _ ?_)
      refine c_false rfl rfl ?_
      refine wp_skip ?_
      refine t_norm (hK41 _ _ ?_)
      refine wp_seq_k fun K50 hK50 => ?_
      refine Rest.region mixed (by kernel_rfl) ?_
      have hH51 : Has E { w49 with drawn := w49.drawn + 1 } [sg45, [Hp.one b33 (.cells #[(.int .i64 ((PO v.tw no).1.1)), (.int .i64 ((PO v.tw no).1.2.1)), v27] 36 (0, 0))], hs28, [Hp.one b9 (.cells #[(.int .i64 0), (.int .i64 0), (.slice none 0 0)] 36 (0, 0))], R] := Has0.drew hH48 _
      obtain ⟨x52, x53, s54, s55, rfl, f56, f57⟩ := hd46
      have hH58 : Has E { w49 with drawn := w49.drawn + 1 } [[Hp.one pl (.cells #[(.pointer (some ⟨x52, 0, none⟩)), (.int .i64 v.room), (.map (some x53))] 81 (0, 0))], s54, s55, [Hp.one b33 (.cells #[(.int .i64 ((PO v.tw no).1.1)), (.int .i64 ((PO v.tw no).1.2.1)), v27] 36 (0, 0))], hs28, [Hp.one b9 (.cells #[(.int .i64 0), (.int .i64 0), (.slice none 0 0)] 36 (0, 0))], R] := Has.op3 hH51
      refine Rest.phaseA (fun w_ => Has E w_ [[Hp.one pl (.cells #[(.pointer (some ⟨x52, 0, none⟩)), (.int .i64 v.room), (.map (some x53))] 81 (0, 0))], [Hp.one b33 (.cells #[(.int .i64 ((PO v.tw no).1.1)), (.int .i64 ((PO v.tw no).1.2.1)), v27] 36 (0, 0))]]) 0 8 8 rfl (by decide) (by kernel_rfl) ?_
      refine a_op 0 rfl (by kernel_rfl) (fun w_ h_ => o_move (v := (.pointer (some ⟨pl, 0, none⟩))) rfl ⟨rfl, rfl⟩) ?_
      refine a_op 1 rfl (by kernel_rfl) (fun w_ h_ => o_nilCheck rfl ⟨rfl, rfl⟩) ?_
      refine a_op 2 rfl (by kernel_rfl) (fun w_ h_ => o_fieldAddr (k := 2) (fun _ => by kernel_rfl) rfl ⟨rfl, rfl⟩) ?_
      refine a_op 3 rfl (by kernel_rfl) (fun w_ h_ => o_load1 (v := (.map (some x53))) Tryz.underlying79 rfl rfl h_ (seg_sub 0 rfl) (CellsAt.one rfl) ⟨rfl, rfl⟩) ?_
      refine a_op 4 rfl (by kernel_rfl) (fun w_ h_ => o_move (v := (.int .i64 no)) rfl ⟨rfl, rfl⟩) ?_
      refine a_op 5 rfl (by kernel_rfl) (fun w_ h_ => o_loadN (cs := [(.int .i64 ((PO v.tw no).1.1)), (.int .i64 ((PO v.tw no).1.2.1)), v27]) Tryz.underlying36 rfl ti36 rfl h_ (seg_sub 1 rfl) (CellsAt.one rfl) ⟨rfl, rfl⟩) ?_
      refine a_op 6 rfl (by kernel_rfl) (fun w_ h_ => o_sight (v := (.agg #[(.int .i64 ((PO v.tw no).1.1)), (.int .i64 ((PO v.tw no).1.2.1)), v27, (.bool false), (.int .i64 0), (.int .i64 0)])) (fun _ => by kernel_rfl) ⟨rfl, rfl⟩) ?_
      have hH59 : Has E { w49 with drawn := w49.drawn + 1 } [[Hp.one pl (.cells #[(.pointer (some ⟨x52, 0, none⟩)), (.int .i64 v.room), (.map (some x53))] 81 (0, 0))], [Hp.one b33 (.cells #[(.int .i64 ((PO v.tw no).1.1)), (.int .i64 ((PO v.tw no).1.2.1)), v27] 36 (0, 0))]] := ((hH58.front 3 rfl).front 1 rfl).first 2 rfl
      refine a_w 7 rfl (by kernel_rfl) hH59 (o_box (cs := #[(.int .i64 ((PO v.tw no).1.1)), (.int .i64 ((PO v.tw no).1.2.1)), v27, (.bool false), (.int .i64 0), (.int .i64 0)]) rfl rfl hH58 fun b60 w61 hH62 => ?_)
      have hH63 : Has E w61 [[Hp.one pl (.cells #[(.pointer (some ⟨x52, 0, none⟩)), (.int .i64 v.room), (.map (some x53))] 81 (0, 0))], [Hp.one b33 (.cells #[(.int .i64 ((PO v.tw no).1.1)), (.int .i64 ((PO v.tw no).1.2.1)), v27] 36 (0, 0))]] := ((hH62.front 4 rfl).front 2 rfl).first 2 rfl
      refine a_done (by kernel_rfl) hH63 ?_
      have hH64 : Has E w61 [([Hp.one b60 (.cells #[(.int .i64 ((PO v.tw no).1.1)), (.int .i64 ((PO v.tw no).1.2.1)), v27, (.bool false), (.int .i64 0), (.int .i64 0)] 126 (0, 0))] ++ hs28), [Hp.one pl (.cells #[(.pointer (some ⟨x52, 0, none⟩)), (.int .i64 v.room), (.map (some x53))] 81 (0, 0))], s54, s55, [Hp.one b33 (.cells #[(.int .i64 ((PO v.tw no).1.1)), (.int .i64 ((PO v.tw no).1.2.1)), v27] 36 (0, 0))], [Hp.one b9 (.cells #[(.int .i64 0), (.int .i64 0), (.slice none 0 0)] 36 (0, 0))], R] := Has.cl2 ((hH62.front 5 rfl).front 1 rfl)
      have hd65 : FrmAt b60 ([Hp.one b60 (.cells #[(.int .i64 ((PO v.tw no).1.1)), (.int .i64 ((PO v.tw no).1.2.1)), v27, (.bool false), (.int .i64 0), (.int .i64 0)] 126 (0, 0))] ++ hs28) (⟨(PO v.tw no).1.1, (PO v.tw no).1.2.1, (PO v.tw no).1.2.2, false, 0, 0⟩ : Frm) := FrmAt.mk (v := (⟨(PO v.tw no).1.1, (PO v.tw no).1.2.1, (PO v.tw no).1.2.2, false, 0, 0⟩ : Frm)) ho29
      refine r_eff 8 rfl (by kernel_rfl) (o_dirPut (k := no) Tryz.underlying79 (key_int Tryz.underlying3) rfl rfl rfl f57 hN16 hd65 (hH64.front 3 rfl) fun sr66 w67 hh68 hH69 => ?_)
      refine Rest.done (by kernel_rfl) ?_
      refine t_norm (hK50 _ _ ?_)
      refine wp_seq_k fun K70 hK70 => ?_
      refine c_region ?_
      refine s_op (o_loadN (cs := [(.int .i64 ((PO v.tw no).1.1)), (.int .i64 ((PO v.tw no).1.2.1)), v27]) Tryz.underlying36 rfl ti36 rfl hH69 (seg_sub 4 rfl) (CellsAt.one rfl) ?_)
      refine s_op (o_callf (vs := #[(.agg #[(.int .i64 ((PO v.tw no).1.1)), (.int .i64 ((PO v.tw no).1.2.1)), v27])]) ca76 rfl (args1 rfl) (copied_c (no := (PO v.tw no).1.1) (gsn := (PO v.tw no).1.2.1) (l := (PO v.tw no).1.2.2) hH69.all (ho29.sl.mono (fun _ g_ => (seg_sub 0 rfl) (List.mem_append_right _ g_))) (by first | omega | (simp only []; omega) | (simp; done) | (simp; omega))) ?_)
      rintro _ w76 ⟨v71, s72, rfl, ho73, hX74⟩
      refine ⟨_, rfl, ?_⟩
      have hH75 : Has E w76 [s72, ([Hp.one b60 (.cells #[(.int .i64 ((PO v.tw no).1.1)), (.int .i64 ((PO v.tw no).1.2.1)), v27, (.bool false), (.int .i64 0), (.int .i64 0)] 126 (0, 0))] ++ hs28), sr66, [Hp.one pl (.cells #[(.pointer (some ⟨x52, 0, none⟩)), (.int .i64 v.room), (.map (some x53))] 81 (0, 0))], s54, [Hp.one b33 (.cells #[(.int .i64 ((PO v.tw no).1.1)), (.int .i64 ((PO v.tw no).1.2.1)), v27] 36 (0, 0))], [Hp.one b9 (.cells #[(.int .i64 0), (.int .i64 0), (.slice none 0 0)] 36 (0, 0))], R] := hX74.of_all1
      refine s_eff (o_storeN (vs := [(.int .i64 ((PO v.tw no).1.1)), (.int .i64 ((PO v.tw no).1.2.1)), v71]) (c' := #[(.int .i64 ((PO v.tw no).1.1)), (.int .i64 ((PO v.tw no).1.2.1)), v71]) ti36 rfl rfl rfl rfl (by intro u hu; simp only [List.mem_cons, List.not_mem_nil, or_false] at hu; rcases hu with rfl | rfl | rfl <;> first | rfl | exact ho73.one) (by simp) (by kernel_rfl) (hH75.front 6 rfl) fun w77 hH78 => ?_)
      refine s_op (o_assign (v := (.int .i64 0)) rfl ?_)
      refine s_nil ?_
      refine t_norm (hK70 _ _ ?_)
      refine wp_ret ?_
      refine c_retC2 Tryz.results36 rfl (run_loadVarN (cs := [(.int .i64 ((PO v.tw no).1.1)), (.int .i64 ((PO v.tw no).1.2.1)), v71]) Tryz.underlying36 rfl ti36 hH78 (seg_sub 0 rfl) (CellsAt.one rfl)) (x := (.int .i64 0)) rfl ?_
      have q79 : (PO v.tw no).1.1 = ((PO v.tw no).1.1) := by rfl
      have q80 : (PO v.tw no).1.2.1 = ((PO v.tw no).1.2.1) := by rfl
      have q81 : (PO v.tw no).1.2.2 = ((PO v.tw no).1.2.2) := by rfl
      obtain ⟨sg82, hd83, hH84⟩ := DirHole.close hh68 hd65 ((hH78.front 3 rfl).front 3 rfl)
      have hd83 : DirAt iV FrmAt x53 sg82 (putB (putB v.fr no (⟨(PO v.tw no).1.1, (PO v.tw no).1.2.1, (PO v.tw no).1.2.2, false, 0, 0⟩ : Frm)) no (⟨(PO v.tw no).1.1, (PO v.tw no).1.2.1, (PO v.tw no).1.2.2, false, 0, 0⟩ : Frm)) := hd83
      have hH85 : Has E w77 [([Hp.one pl (.cells #[(.pointer (some ⟨x52, 0, none⟩)), (.int .i64 v.room), (.map (some x53))] 81 (0, 0))] ++ (s54 ++ sg82)), [Hp.one b9 (.cells #[(.int .i64 ((PO v.tw no).1.1)), (.int .i64 ((PO v.tw no).1.2.1)), v71] 36 (0, 0))], s72, [Hp.one b33 (.cells #[(.int .i64 ((PO v.tw no).1.1)), (.int .i64 ((PO v.tw no).1.2.1)), v27] 36 (0, 0))], R] := Has.cl3 ((hH84.front 4 rfl).front 4 rfl)
      have hd86 : PolAt pl ([Hp.one pl (.cells #[(.pointer (some ⟨x52, 0, none⟩)), (.int .i64 v.room), (.map (some x53))] 81 (0, 0))] ++ (s54 ++ sg82)) (⟨v.tw, v.room, (putB (putB v.fr no (⟨(PO v.tw no).1.1, (PO v.tw no).1.2.1, (PO v.tw no).1.2.2, false, 0, 0⟩ : Frm)) no (⟨(PO v.tw no).1.1, (PO v.tw no).1.2.1, (PO v.tw no).1.2.2, false, 0, 0⟩ : Frm))⟩ : PolS) := PolAt.mk (v := (⟨v.tw, v.room, (putB (putB v.fr no (⟨(PO v.tw no).1.1, (PO v.tw no).1.2.1, (PO v.tw no).1.2.2, false, 0, 0⟩ : Frm)) no (⟨(PO v.tw no).1.1, (PO v.tw no).1.2.1, (PO v.tw no).1.2.2, false, 0, 0⟩ : Frm))⟩ : PolS)) f56 hd83
      have q87 : (⟨v.tw, v.room, putB v.fr no ⟨(PO v.tw no).1.1, (PO v.tw no).1.2.1, (PO v.tw no).1.2.2, false, 0, 0⟩⟩ : PolS) = (⟨v.tw, v.room, (putB (putB v.fr no (⟨(PO v.tw no).1.1, (PO v.tw no).1.2.1, (PO v.tw no).1.2.2, false, 0, 0⟩ : Frm)) no (⟨(PO v.tw no).1.1, (PO v.tw no).1.2.1, (PO v.tw no).1.2.2, false, 0, 0⟩ : Frm))⟩ : PolS) := by rw [putB_twice]
      have hH88 : Has E w77 [s72, ([Hp.one pl (.cells #[(.pointer (some ⟨x52, 0, none⟩)), (.int .i64 v.room), (.map (some x53))] 81 (0, 0))] ++ (s54 ++ sg82)), R] := (((hH85.front 4 rfl).front 1 rfl).front 3 rfl).first 3 rfl
      exact ⟨_, _, _, by rw [q79, q80], (by rw [q81]; exact ho73), (by rw [q87]; exact hd86), hH88⟩
  · -- some
    exact absurd (Eq.trans (Eq.symm hgn) hS17) (by simp)
end Go.Q
namespace Go.Q
open Go.Proofs
set_option linter.unusedVariables false
set_option maxRecDepth 100000
attribute [local irreducible] wpList OK Code.wp
set_option maxHeartbeats 4000000 in
theorem change_ok {E w : World} {R : List Hp} {pl : Nat} {sg_pl : List Hp} {v : PolS} {no : Int} {gsn : Int} {v_l : Value} {l : List Cel} {g : Int} {f : Frm} (hH : Has E w [sg_pl, R]) (h_pl : PolAt pl sg_pl v) (h_l : Sl R 2 v_l l.length (l.flatMap ceC)) (hgf : getB v.fr no = some f) (hr : pageR no gsn l = true) (hlt : f.gsn < gsn) (hge : g = gsn) (hll : l.length ≤ 1000000) :
    Calls Tryz.prog 37 #[(.pointer (some ⟨pl, 0, none⟩)), (.agg #[(.int .i64 no), (.int .i64 gsn), v_l]), (.int .i64 g)] w fun e w' => ∃ (sg_pl' : List Hp), e = .returned (.int .i64 0) ∧ (PolAt pl sg_pl' (⟨v.tw, v.room, putB v.fr no ⟨no, gsn, l, true, (if f.dirty = true then f.first else g), f.pins⟩⟩ : PolS)) ∧ Has E w' [sg_pl', R] := by
  have hln_ := h_l.le
  obtain ⟨x1, x2, s3, s4, rfl, f5, f6⟩ := h_pl
  have hH7 : Has E w [[Hp.one pl (.cells #[(.pointer (some ⟨x1, 0, none⟩)), (.int .i64 v.room), (.map (some x2))] 81 (0, 0))], s3, s4, R] := Has.op3 hH
  refine c_enter (args := [(.pointer (some ⟨pl, 0, none⟩)), (.agg #[(.int .i64 no), (.int .i64 gsn), v_l]), (.int .i64 g)]) Tryz.func37 rfl Tryz.ntmps37 (by simp) ?_
  refine wp_seq_k fun K8 hK8 => ?_
  refine c_region ?_
  refine s_op (o_box (cs := #[(.int .i64 no), (.int .i64 gsn), v_l]) rfl rfl hH7 fun b9 w10 hH11 => ?_)
  refine s_op (o_assign (v := (.int .i64 0)) rfl ?_)
  refine s_nil ?_
  refine t_norm (hK8 _ _ ?_)
  refine wp_seq_k fun K12 hK12 => ?_
  refine wp_seq_k fun K13 hK13 => ?_
  refine c_region ?_
  refine s_op (o_move (v := (.pointer (some ⟨pl, 0, none⟩))) rfl ?_)
  refine s_op (o_pnil (p := some _) Tryz.underlying65 rfl rfl ?_)
  refine s_nil ?_
  refine t_norm (hK13 _ _ ?_)
  refine c_false rfl rfl ?_
  refine wp_skip ?_
  refine t_norm (hK12 _ _ ?_)
  refine wp_seq_k fun K14 hK14 => ?_
  refine Rest.region mixed (by kernel_rfl) ?_
  have hH15 : Has E { w10 with drawn := w10.drawn + 1 } [[Hp.one b9 (.cells #[(.int .i64 no), (.int .i64 gsn), v_l] 36 (0, 0))], [Hp.one pl (.cells #[(.pointer (some ⟨x1, 0, none⟩)), (.int .i64 v.room), (.map (some x2))] 81 (0, 0))], s3, s4, R] := Has0.drew hH11 _
  refine Rest.phaseA (fun w_ => Has E w_ [[Hp.one b9 (.cells #[(.int .i64 no), (.int .i64 gsn), v_l] 36 (0, 0))], [Hp.one pl (.cells #[(.pointer (some ⟨x1, 0, none⟩)), (.int .i64 v.room), (.map (some x2))] 81 (0, 0))]]) 0 6 6 rfl (by decide) (by kernel_rfl) ?_
  refine a_op 0 rfl (by kernel_rfl) (fun w_ h_ => o_move (v := (.pointer (some ⟨pl, 0, none⟩))) rfl ⟨rfl, rfl⟩) ?_
  refine a_op 1 rfl (by kernel_rfl) (fun w_ h_ => o_nilCheck rfl ⟨rfl, rfl⟩) ?_
  refine a_op 2 rfl (by kernel_rfl) (fun w_ h_ => o_fieldAddr (k := 2) (fun _ => by kernel_rfl) rfl ⟨rfl, rfl⟩) ?_
  refine a_op 3 rfl (by kernel_rfl) (fun w_ h_ => o_load1 (v := (.map (some x2))) Tryz.underlying79 rfl rfl h_ (seg_sub 1 rfl) (CellsAt.one rfl) ⟨rfl, rfl⟩) ?_
  refine a_op 4 rfl (by kernel_rfl) (fun w_ h_ => o_fieldAddr (k := 0) (fun _ => by kernel_rfl) rfl ⟨rfl, rfl⟩) ?_
  refine a_op 5 rfl (by kernel_rfl) (fun w_ h_ => o_load1 (v := (.int .i64 no)) Tryz.underlying3 rfl rfl h_ (seg_sub 0 rfl) (CellsAt.one rfl) ⟨rfl, rfl⟩) ?_
  have hH16 : Has E { w10 with drawn := w10.drawn + 1 } [[Hp.one b9 (.cells #[(.int .i64 no), (.int .i64 gsn), v_l] 36 (0, 0))], [Hp.one pl (.cells #[(.pointer (some ⟨x1, 0, none⟩)), (.int .i64 v.room), (.map (some x2))] 81 (0, 0))]] := ((hH15.front 1 rfl).front 1 rfl).first 2 rfl
  refine a_done (by kernel_rfl) hH16 ?_
  refine r_op 6 rfl (by kernel_rfl) (o_dirOut (k := no) Tryz.underlying79 (key_int Tryz.underlying3) ti123 rfl rfl f6 (hH15.front 3 rfl) (fun hN17 => ?_) (fun b19 v20 sx21 sr22 hS18 hx23 hh24 hH25 => ?_))
  · -- none
    exact absurd (Eq.trans (Eq.symm hgf) hN17) (by simp)
  · -- some
    have e_ : f = v20 := Option.some.inj (Eq.trans (Eq.symm hgf) hS18)
    subst e_
    refine r_op 7 rfl (by kernel_rfl) (o_assign (v := (.pointer (some ⟨b19, 0, none⟩))) rfl ?_)
    refine Rest.done (by kernel_rfl) ?_
    refine t_norm (hK14 _ _ ?_)
    refine wp_seq_k fun K26 hK26 => ?_
    refine wp_block ?_
    refine wp_seq_k fun K27 hK27 => ?_
    refine c_region ?_
    refine s_op (o_move (v := (.pointer (some ⟨b19, 0, none⟩))) rfl ?_)
    refine s_op (o_pnil (p := some _) Tryz.underlying123 rfl rfl ?_)
    refine s_op (o_assign (v := (.bool false)) rfl ?_)
    refine s_nil ?_
    refine t_norm (hK27 _ _ ?_)
    refine c_false rfl rfl ?_
    refine wp_seq_k fun K28 hK28 => ?_
    refine Rest.region mixed (by kernel_rfl) ?_
    have hH29 : Has E { { w10 with drawn := w10.drawn + 1 } with drawn := { w10 with drawn := w10.drawn + 1 }.drawn + 1 } [sx21, sr22, [Hp.one b9 (.cells #[(.int .i64 no), (.int .i64 gsn), v_l] 36 (0, 0))], [Hp.one pl (.cells #[(.pointer (some ⟨x1, 0, none⟩)), (.int .i64 v.room), (.map (some x2))] 81 (0, 0))], s3, R] := Has0.drew hH25 _
    refine r_op 0 rfl (by kernel_rfl) (o_loadN (cs := [(.int .i64 no), (.int .i64 gsn), v_l]) Tryz.underlying36 rfl ti36 rfl hH29 (seg_sub 2 rfl) (CellsAt.one rfl) ?_)
    refine r_op 1 rfl (by kernel_rfl) (o_callf (vs := #[(.agg #[(.int .i64 no), (.int .i64 gsn), v_l])]) ca78 rfl (args1 rfl) (pright_c (no := no) (gsn := gsn) (l := l) hH29.all (h_l.mono (seg_sub 5 rfl))) ?_)
    rintro _ w32 ⟨rfl, hX30⟩
    refine ⟨_, rfl, ?_⟩
    have hH31 := hX30.of_all
    refine r_op 2 rfl (by kernel_rfl) (o_not rfl ?_)
    refine r_op 3 rfl (by kernel_rfl) (o_move (v := (.bool (!(pageR no gsn l)))) rfl ?_)
    obtain ⟨x33, s34, rfl, f35⟩ := hx23
    have hH36 : Has E w32 [[Hp.one b19 (.cells #[(.int .i64 f.no), (.int .i64 f.gsn), x33, (.bool f.dirty), (.int .i64 f.first), (.int .i64 f.pins)] 126 (0, 0))], s34, sr22, [Hp.one b9 (.cells #[(.int .i64 no), (.int .i64 gsn), v_l] 36 (0, 0))], [Hp.one pl (.cells #[(.pointer (some ⟨x1, 0, none⟩)), (.int .i64 v.room), (.map (some x2))] 81 (0, 0))], s3, R] := Has.op2 hH31
    refine Rest.phaseA (fun w_ => Has E w_ [[Hp.one b19 (.cells #[(.int .i64 f.no), (.int .i64 f.gsn), x33, (.bool f.dirty), (.int .i64 f.first), (.int .i64 f.pins)] 126 (0, 0))], [Hp.one b9 (.cells #[(.int .i64 no), (.int .i64 gsn), v_l] 36 (0, 0))]]) 4 11 7 rfl (by decide) (by kernel_rfl) ?_
    rcases Bool.eq_false_or_eq_true (!(pageR no gsn l)) with h37 | h37
    · -- !(pageR no gsn l)
      exact absurd h37 (by rw [hr]; decide)
    · -- not: !(pageR no gsn l)
      refine a_on 4 rfl (by kernel_rfl) 24 rfl (congrArg Value.bool h37) (fun w_ h_ => o_fieldAddr (k := 1) (fun _ => by kernel_rfl) rfl ⟨rfl, rfl⟩) ?_
      refine a_on 5 rfl (by kernel_rfl) 24 rfl (congrArg Value.bool h37) (fun w_ h_ => o_load1 (v := (.int .i64 gsn)) Tryz.underlying3 rfl rfl h_ (seg_sub 1 rfl) (CellsAt.one rfl) ⟨rfl, rfl⟩) ?_
      refine a_on 6 rfl (by kernel_rfl) 24 rfl (congrArg Value.bool h37) (fun w_ h_ => o_move (v := (.pointer (some ⟨b19, 0, none⟩))) rfl ⟨rfl, rfl⟩) ?_
      refine a_on 7 rfl (by kernel_rfl) 24 rfl (congrArg Value.bool h37) (fun w_ h_ => o_nilCheck rfl ⟨rfl, rfl⟩) ?_
      refine a_on 8 rfl (by kernel_rfl) 24 rfl (congrArg Value.bool h37) (fun w_ h_ => o_fieldAddr (k := 0) (fun _ => by kernel_rfl) rfl ⟨rfl, rfl⟩) ?_
      refine a_on 9 rfl (by kernel_rfl) 24 rfl (congrArg Value.bool h37) (fun w_ h_ => o_fieldAddr (k := 1) (fun _ => by kernel_rfl) rfl ⟨rfl, rfl⟩) ?_
      refine a_on 10 rfl (by kernel_rfl) 24 rfl (congrArg Value.bool h37) (fun w_ h_ => o_load1 (v := (.int .i64 f.gsn)) Tryz.underlying3 rfl rfl h_ (seg_sub 0 rfl) (CellsAt.one rfl) ⟨rfl, rfl⟩) ?_
      have hH38 : Has E w32 [[Hp.one b19 (.cells #[(.int .i64 f.no), (.int .i64 f.gsn), x33, (.bool f.dirty), (.int .i64 f.first), (.int .i64 f.pins)] 126 (0, 0))], [Hp.one b9 (.cells #[(.int .i64 no), (.int .i64 gsn), v_l] 36 (0, 0))]] := ((hH36.front 3 rfl).front 1 rfl).first 2 rfl
      refine a_done (by kernel_rfl) hH38 ?_
      refine r_on 11 rfl (by kernel_rfl) 24 rfl (congrArg Value.bool h37) (o_leq (a := gsn) (b := f.gsn) rfl rfl ?_)
      refine r_op 12 rfl (by kernel_rfl) (o_pick_f (u := (.bool (decide (gsn ≤ f.gsn)))) ((rfl : _ = _).trans (congrArg Value.bool h37)) rfl ?_)
      refine r_op 13 rfl (by kernel_rfl) (o_move (v := (.bool (decide (gsn ≤ f.gsn)))) rfl ?_)
      refine Rest.phaseA (fun w_ => Has E w_ [[Hp.one b9 (.cells #[(.int .i64 no), (.int .i64 gsn), v_l] 36 (0, 0))]]) 14 17 3 rfl (by decide) (by kernel_rfl) ?_
      by_cases h39 : gsn ≤ f.gsn
      · -- gsn ≤ f.gsn
        exfalso; omega
      · -- not: gsn ≤ f.gsn
        refine a_on 14 rfl (by kernel_rfl) 34 rfl (congrArg Value.bool (decide_eq_false h39)) (fun w_ h_ => o_move (v := (.int .i64 g)) rfl ⟨rfl, rfl⟩) ?_
        refine a_on 15 rfl (by kernel_rfl) 34 rfl (congrArg Value.bool (decide_eq_false h39)) (fun w_ h_ => o_fieldAddr (k := 1) (fun _ => by kernel_rfl) rfl ⟨rfl, rfl⟩) ?_
        refine a_on 16 rfl (by kernel_rfl) 34 rfl (congrArg Value.bool (decide_eq_false h39)) (fun w_ h_ => o_load1 (v := (.int .i64 gsn)) Tryz.underlying3 rfl rfl h_ (seg_sub 0 rfl) (CellsAt.one rfl) ⟨rfl, rfl⟩) ?_
        have hH40 : Has E w32 [[Hp.one b9 (.cells #[(.int .i64 no), (.int .i64 gsn), v_l] 36 (0, 0))]] := (hH36.front 3 rfl).first 1 rfl
        refine a_done (by kernel_rfl) hH40 ?_
        refine r_on 17 rfl (by kernel_rfl) 34 rfl (congrArg Value.bool (decide_eq_false h39)) (o_neq (a := g) (b := gsn) rfl rfl ?_)
        refine r_op 18 rfl (by kernel_rfl) (o_pick_f (u := (.bool (decide (g ≠ gsn)))) ((rfl : _ = _).trans (congrArg Value.bool (decide_eq_false h39))) rfl ?_)
        refine r_op 19 rfl (by kernel_rfl) (o_assign (v := (.bool (decide (g ≠ gsn)))) rfl ?_)
        refine Rest.done (by kernel_rfl) ?_
        refine t_norm (hK28 _ _ ?_)
        refine c_cond rfl (fun h41 => ?_) (fun h41 => ?_)
        · -- g ≠ gsn
          exfalso; omega
        · -- not: g ≠ gsn
          refine wp_seq_k fun K42 hK42 => ?_
          refine c_region ?_
          refine s_op (o_move (v := (.pointer (some ⟨b19, 0, none⟩))) rfl ?_)
          refine s_op (o_nilCheck rfl ?_)
          refine s_op (o_fieldAddr (k := 3) (fun _ => by kernel_rfl) rfl ?_)
          refine s_op (o_load1 (v := (.bool f.dirty)) Tryz.underlying4 rfl rfl hH36 (seg_sub 0 rfl) (CellsAt.one rfl) ?_)
          refine s_op (o_not rfl ?_)
          refine s_op (o_assign (v := (.bool (!f.dirty))) rfl ?_)
          refine s_nil ?_
          refine t_norm (hK42 _ _ ?_)
          refine c_condb rfl (fun h43 => ?_) (fun h43 => ?_)
          · -- !f.dirty
            have h43_n : f.dirty = false := by first | simpa using h43 | exact Bool.of_not_eq_true (fun g_ => by rw [g_] at h43; cases h43)
            refine c_region ?_
            refine s_op (o_move (v := (.pointer (some ⟨b19, 0, none⟩))) rfl ?_)
            refine s_op (o_move (v := (.pointer (some ⟨b19, 0, none⟩))) rfl ?_)
            refine s_op (o_move (v := (.int .i64 g)) rfl ?_)
            refine s_op (o_nilCheck rfl ?_)
            refine s_op (o_fieldAddr (k := 3) (fun _ => by kernel_rfl) rfl ?_)
            refine s_eff (o_store1 (c' := #[(.int .i64 f.no), (.int .i64 f.gsn), x33, (.bool true), (.int .i64 f.first), (.int .i64 f.pins)]) ti4 rfl rfl rfl (by simp) rfl (hH36.front 0 rfl) fun w44 hH45 => ?_)
            refine s_op (o_nilCheck rfl ?_)
            refine s_op (o_fieldAddr (k := 4) (fun _ => by kernel_rfl) rfl ?_)
            refine s_eff (o_store1 (c' := #[(.int .i64 f.no), (.int .i64 f.gsn), x33, (.bool true), (.int .i64 g), (.int .i64 f.pins)]) ti3 rfl rfl rfl (by simp) rfl (hH45.front 0 rfl) fun w46 hH47 => ?_)
            refine s_nil ?_
            refine b_norm ?_
            refine t_norm (hK26 _ _ ?_)
            refine wp_seq_k fun K48 hK48 => ?_
            refine c_region ?_
            refine s_op (o_move (v := (.pointer (some ⟨b19, 0, none⟩))) rfl ?_)
            refine s_op (o_loadN (cs := [(.int .i64 no), (.int .i64 gsn), v_l]) Tryz.underlying36 rfl ti36 rfl hH47 (seg_sub 3 rfl) (CellsAt.one rfl) ?_)
            refine s_op (o_callf (vs := #[(.agg #[(.int .i64 no), (.int .i64 gsn), v_l])]) ca76 rfl (args1 rfl) (copied_c (no := no) (gsn := gsn) (l := l) hH47.all (h_l.mono (seg_sub 6 rfl)) (by first | omega | (simp only []; omega) | (simp; done) | (simp; omega))) ?_)
            rintro _ w54 ⟨v49, s50, rfl, ho51, hX52⟩
            refine ⟨_, rfl, ?_⟩
            have hH53 : Has E w54 [s50, [Hp.one b19 (.cells #[(.int .i64 f.no), (.int .i64 f.gsn), x33, (.bool true), (.int .i64 g), (.int .i64 f.pins)] 126 (0, 0))], s34, sr22, [Hp.one b9 (.cells #[(.int .i64 no), (.int .i64 gsn), v_l] 36 (0, 0))], [Hp.one pl (.cells #[(.pointer (some ⟨x1, 0, none⟩)), (.int .i64 v.room), (.map (some x2))] 81 (0, 0))], s3, R] := hX52.of_all1
            refine s_op (o_nilCheck rfl ?_)
            refine s_op (o_fieldAddr (k := 0) (fun _ => by kernel_rfl) rfl ?_)
            refine s_eff (o_storeN (vs := [(.int .i64 no), (.int .i64 gsn), v49]) (c' := #[(.int .i64 no), (.int .i64 gsn), v49, (.bool true), (.int .i64 g), (.int .i64 f.pins)]) ti36 rfl rfl rfl rfl (by intro u hu; simp only [List.mem_cons, List.not_mem_nil, or_false] at hu; rcases hu with rfl | rfl | rfl <;> first | rfl | exact ho51.one) (by simp) (by kernel_rfl) (hH53.front 1 rfl) fun w55 hH56 => ?_)
            refine s_nil ?_
            refine t_norm (hK48 _ _ ?_)
            refine wp_seq_k fun K57 hK57 => ?_
            refine c_region ?_
            refine s_op (o_assign (v := (.int .i64 0)) rfl ?_)
            refine s_nil ?_
            refine t_norm (hK57 _ _ ?_)
            refine wp_ret ?_
            refine c_ret1 Tryz.results37  (v := (.int .i64 0)) rfl ?_
            have hH58 : Has E w55 [([Hp.one b19 (.cells #[(.int .i64 no), (.int .i64 gsn), v49, (.bool true), (.int .i64 g), (.int .i64 f.pins)] 126 (0, 0))] ++ s50), s34, sr22, [Hp.one b9 (.cells #[(.int .i64 no), (.int .i64 gsn), v_l] 36 (0, 0))], [Hp.one pl (.cells #[(.pointer (some ⟨x1, 0, none⟩)), (.int .i64 v.room), (.map (some x2))] 81 (0, 0))], s3, R] := Has.cl2 ((hH56.front 1 rfl).front 1 rfl)
            have hd59 : FrmAt b19 ([Hp.one b19 (.cells #[(.int .i64 no), (.int .i64 gsn), v49, (.bool true), (.int .i64 g), (.int .i64 f.pins)] 126 (0, 0))] ++ s50) (⟨no, gsn, l, true, g, f.pins⟩ : Frm) := FrmAt.mk (v := (⟨no, gsn, l, true, g, f.pins⟩ : Frm)) ho51
            obtain ⟨sg60, hd61, hH62⟩ := DirHole.close hh24 hd59 ((hH58.front 2 rfl).front 1 rfl)
            have hd61 : DirAt iV FrmAt x2 sg60 (putB v.fr no (⟨no, gsn, l, true, g, f.pins⟩ : Frm)) := hd61
            have hH63 : Has E w55 [([Hp.one pl (.cells #[(.pointer (some ⟨x1, 0, none⟩)), (.int .i64 v.room), (.map (some x2))] 81 (0, 0))] ++ (s3 ++ sg60)), s34, [Hp.one b9 (.cells #[(.int .i64 no), (.int .i64 gsn), v_l] 36 (0, 0))], R] := Has.cl3 ((hH62.front 4 rfl).front 4 rfl)
            have hd64 : PolAt pl ([Hp.one pl (.cells #[(.pointer (some ⟨x1, 0, none⟩)), (.int .i64 v.room), (.map (some x2))] 81 (0, 0))] ++ (s3 ++ sg60)) (⟨v.tw, v.room, (putB v.fr no (⟨no, gsn, l, true, g, f.pins⟩ : Frm))⟩ : PolS) := PolAt.mk (v := (⟨v.tw, v.room, (putB v.fr no (⟨no, gsn, l, true, g, f.pins⟩ : Frm))⟩ : PolS)) f5 hd61
            have q65 : (⟨v.tw, v.room, putB v.fr no ⟨no, gsn, l, true, (if f.dirty = true then f.first else g), f.pins⟩⟩ : PolS) = (⟨v.tw, v.room, (putB v.fr no (⟨no, gsn, l, true, g, f.pins⟩ : Frm))⟩ : PolS) := by (have hd_ : f.dirty = false := by simpa using h43); rw [hd_]; rfl
            have hH66 : Has E w55 [([Hp.one pl (.cells #[(.pointer (some ⟨x1, 0, none⟩)), (.int .i64 v.room), (.map (some x2))] 81 (0, 0))] ++ (s3 ++ sg60)), R] := ((hH63.front 3 rfl).front 1 rfl).first 2 rfl
            exact ⟨_, rfl, (by rw [q65]; exact hd64), hH66⟩
          · -- not: !f.dirty
            have h43_n : f.dirty = true := by first | simpa using h43 | exact Bool.of_not_eq_false (fun g_ => by rw [g_] at h43; cases h43)
            refine wp_skip ?_
            refine b_norm ?_
            refine t_norm (hK26 _ _ ?_)
            refine wp_seq_k fun K67 hK67 => ?_
            refine c_region ?_
            refine s_op (o_move (v := (.pointer (some ⟨b19, 0, none⟩))) rfl ?_)
            refine s_op (o_loadN (cs := [(.int .i64 no), (.int .i64 gsn), v_l]) Tryz.underlying36 rfl ti36 rfl hH36 (seg_sub 3 rfl) (CellsAt.one rfl) ?_)
            refine s_op (o_callf (vs := #[(.agg #[(.int .i64 no), (.int .i64 gsn), v_l])]) ca76 rfl (args1 rfl) (copied_c (no := no) (gsn := gsn) (l := l) hH36.all (h_l.mono (seg_sub 6 rfl)) (by first | omega | (simp only []; omega) | (simp; done) | (simp; omega))) ?_)
            rintro _ w73 ⟨v68, s69, rfl, ho70, hX71⟩
            refine ⟨_, rfl, ?_⟩
            have hH72 : Has E w73 [s69, [Hp.one b19 (.cells #[(.int .i64 f.no), (.int .i64 f.gsn), x33, (.bool f.dirty), (.int .i64 f.first), (.int .i64 f.pins)] 126 (0, 0))], s34, sr22, [Hp.one b9 (.cells #[(.int .i64 no), (.int .i64 gsn), v_l] 36 (0, 0))], [Hp.one pl (.cells #[(.pointer (some ⟨x1, 0, none⟩)), (.int .i64 v.room), (.map (some x2))] 81 (0, 0))], s3, R] := hX71.of_all1
            refine s_op (o_nilCheck rfl ?_)
            refine s_op (o_fieldAddr (k := 0) (fun _ => by kernel_rfl) rfl ?_)
            refine s_eff (o_storeN (vs := [(.int .i64 no), (.int .i64 gsn), v68]) (c' := #[(.int .i64 no), (.int .i64 gsn), v68, (.bool f.dirty), (.int .i64 f.first), (.int .i64 f.pins)]) ti36 rfl rfl rfl rfl (by intro u hu; simp only [List.mem_cons, List.not_mem_nil, or_false] at hu; rcases hu with rfl | rfl | rfl <;> first | rfl | exact ho70.one) (by simp) (by kernel_rfl) (hH72.front 1 rfl) fun w74 hH75 => ?_)
            refine s_nil ?_
            refine t_norm (hK67 _ _ ?_)
            refine wp_seq_k fun K76 hK76 => ?_
            refine c_region ?_
            refine s_op (o_assign (v := (.int .i64 0)) rfl ?_)
            refine s_nil ?_
            refine t_norm (hK76 _ _ ?_)
            refine wp_ret ?_
            refine c_ret1 Tryz.results37  (v := (.int .i64 0)) rfl ?_
            have hH77 : Has E w74 [([Hp.one b19 (.cells #[(.int .i64 no), (.int .i64 gsn), v68, (.bool f.dirty), (.int .i64 f.first), (.int .i64 f.pins)] 126 (0, 0))] ++ s69), s34, sr22, [Hp.one b9 (.cells #[(.int .i64 no), (.int .i64 gsn), v_l] 36 (0, 0))], [Hp.one pl (.cells #[(.pointer (some ⟨x1, 0, none⟩)), (.int .i64 v.room), (.map (some x2))] 81 (0, 0))], s3, R] := Has.cl2 ((hH75.front 1 rfl).front 1 rfl)
            have hd78 : FrmAt b19 ([Hp.one b19 (.cells #[(.int .i64 no), (.int .i64 gsn), v68, (.bool f.dirty), (.int .i64 f.first), (.int .i64 f.pins)] 126 (0, 0))] ++ s69) (⟨no, gsn, l, f.dirty, f.first, f.pins⟩ : Frm) := FrmAt.mk (v := (⟨no, gsn, l, f.dirty, f.first, f.pins⟩ : Frm)) ho70
            obtain ⟨sg79, hd80, hH81⟩ := DirHole.close hh24 hd78 ((hH77.front 2 rfl).front 1 rfl)
            have hd80 : DirAt iV FrmAt x2 sg79 (putB v.fr no (⟨no, gsn, l, f.dirty, f.first, f.pins⟩ : Frm)) := hd80
            have hH82 : Has E w74 [([Hp.one pl (.cells #[(.pointer (some ⟨x1, 0, none⟩)), (.int .i64 v.room), (.map (some x2))] 81 (0, 0))] ++ (s3 ++ sg79)), s34, [Hp.one b9 (.cells #[(.int .i64 no), (.int .i64 gsn), v_l] 36 (0, 0))], R] := Has.cl3 ((hH81.front 4 rfl).front 4 rfl)
            have hd83 : PolAt pl ([Hp.one pl (.cells #[(.pointer (some ⟨x1, 0, none⟩)), (.int .i64 v.room), (.map (some x2))] 81 (0, 0))] ++ (s3 ++ sg79)) (⟨v.tw, v.room, (putB v.fr no (⟨no, gsn, l, f.dirty, f.first, f.pins⟩ : Frm))⟩ : PolS) := PolAt.mk (v := (⟨v.tw, v.room, (putB v.fr no (⟨no, gsn, l, f.dirty, f.first, f.pins⟩ : Frm))⟩ : PolS)) f5 hd80
            have q84 : (⟨v.tw, v.room, putB v.fr no ⟨no, gsn, l, true, (if f.dirty = true then f.first else g), f.pins⟩⟩ : PolS) = (⟨v.tw, v.room, (putB v.fr no (⟨no, gsn, l, f.dirty, f.first, f.pins⟩ : Frm))⟩ : PolS) := by (have hd_ : f.dirty = true := by simpa using h43); rw [hd_]; rfl
            have hH85 : Has E w74 [([Hp.one pl (.cells #[(.pointer (some ⟨x1, 0, none⟩)), (.int .i64 v.room), (.map (some x2))] 81 (0, 0))] ++ (s3 ++ sg79)), R] := ((hH82.front 3 rfl).front 1 rfl).first 2 rfl
            exact ⟨_, rfl, (by rw [q84]; exact hd83), hH85⟩
end Go.Q
namespace Go.Q
open Go.Proofs
set_option linter.unusedVariables false
set_option maxRecDepth 100000
attribute [local irreducible] wpList OK Code.wp
set_option maxHeartbeats 4000000 in
theorem flf_busy {E w : World} {R : List Hp} {fb : Nat} {sg_fb : List Hp} {v : Frm} {hb : Nat} {h : Int} {pb pl : Nat} {nb : Nat} {sg_nb : List Hp} {m : BxS} {mb : Nat} {rm : Int} {tb : Nat} {sg_tb : List Hp} {t : TwS}  (hH : Has E w [sg_fb, sg_nb, sg_tb, R]) (h_fb : FrmAt fb sg_fb v) (h_hb : CellsAt R hb 0 [(.int .i64 h)]) (h_pb : CellsAt R pb 0 [(.pointer (some ⟨pl, 0, none⟩))]) (h_nb : BxAt nb sg_nb m) (h_pl : CellsAt R pl 0 [(.pointer (some ⟨tb, 0, none⟩)), (.int .i64 rm), (.map (some mb))]) (h_tb : TwAt tb sg_tb t) (hd : v.dirty = true) (hbz : h < v.gsn) :
    Calls Tryz.prog 80 #[(.pointer (some ⟨fb, 0, none⟩)), (.pointer (some ⟨hb, 0, none⟩)), (.pointer (some ⟨pb, 0, none⟩)), (.pointer (some ⟨nb, 0, none⟩))] w fun e w' => ∃ (sg_fb' : List Hp) (sg_nb' : List Hp) (sg_tb' : List Hp), e = .returned (.int .i64 10) ∧ (FrmAt fb sg_fb' v) ∧ (BxAt nb sg_nb' m) ∧ (TwAt tb sg_tb' t) ∧ Has E w' [sg_fb', sg_nb', sg_tb', R] := by
  obtain ⟨x1, s2, rfl, f3⟩ := h_fb
  have hH4 : Has E w [[Hp.one fb (.cells #[(.int .i64 v.no), (.int .i64 v.gsn), x1, (.bool v.dirty), (.int .i64 v.first), (.int .i64 v.pins)] 126 (0, 0))], s2, sg_nb, sg_tb, R] := Has.op2 hH
  obtain rfl := (show sg_nb = _ from h_nb)
  have hH5 := (hH4.front 2 rfl)
  refine c_enter (args := [(.pointer (some ⟨fb, 0, none⟩)), (.pointer (some ⟨hb, 0, none⟩)), (.pointer (some ⟨pb, 0, none⟩)), (.pointer (some ⟨nb, 0, none⟩))]) Tryz.func80 rfl Tryz.ntmps80 (by simp) ?_
  refine wp_seq_k fun K6 hK6 => ?_
  refine c_region ?_
  refine s_op (o_assign (v := (.int .i64 0)) rfl ?_)
  refine s_nil ?_
  refine t_norm (hK6 _ _ ?_)
  refine wp_seq_k fun K7 hK7 => ?_
  refine wp_block ?_
  refine wp_seq_k fun K8 hK8 => ?_
  refine c_region ?_
  refine s_op (o_move (v := (.pointer (some ⟨fb, 0, none⟩))) rfl ?_)
  refine s_op (o_nilCheck rfl ?_)
  refine s_op (o_fieldAddr (k := 3) (fun _ => by kernel_rfl) rfl ?_)
  refine s_op (o_load1 (v := (.bool v.dirty)) Tryz.underlying4 rfl rfl hH5 (seg_sub 1 rfl) (CellsAt.one rfl) ?_)
  refine s_op (o_not rfl ?_)
  refine s_op (o_assign (v := (.bool (!v.dirty))) rfl ?_)
  refine s_nil ?_
  refine t_norm (hK8 _ _ ?_)
  refine c_condb rfl (fun h9 => ?_) (fun h9 => ?_)
  · -- !v.dirty
    have h9_n : v.dirty = false := by first | simpa using h9 | exact Bool.of_not_eq_true (fun g_ => by rw [g_] at h9; cases h9)
    exact absurd h9 (by rw [hd]; decide)
  · -- not: !v.dirty
    have h9_n : v.dirty = true := by first | simpa using h9 | exact Bool.of_not_eq_false (fun g_ => by rw [g_] at h9; cases h9)
    refine wp_seq_k fun K10 hK10 => ?_
    refine Rest.region mixed (by kernel_rfl) ?_
    have hH11 : Has E { w with drawn := w.drawn + 1 } [[Hp.one nb (.cells #[(.int .i64 m.n)] 3 (0, 0))], [Hp.one fb (.cells #[(.int .i64 v.no), (.int .i64 v.gsn), x1, (.bool v.dirty), (.int .i64 v.first), (.int .i64 v.pins)] 126 (0, 0))], s2, sg_tb, R] := Has0.drew hH5 _
    refine Rest.phaseA (fun w_ => Has E w_ [[Hp.one fb (.cells #[(.int .i64 v.no), (.int .i64 v.gsn), x1, (.bool v.dirty), (.int .i64 v.first), (.int .i64 v.pins)] 126 (0, 0))], R]) 0 6 6 rfl (by decide) (by kernel_rfl) ?_
    refine a_op 0 rfl (by kernel_rfl) (fun w_ h_ => o_move (v := (.pointer (some ⟨fb, 0, none⟩))) rfl ⟨rfl, rfl⟩) ?_
    refine a_op 1 rfl (by kernel_rfl) (fun w_ h_ => o_nilCheck rfl ⟨rfl, rfl⟩) ?_
    refine a_op 2 rfl (by kernel_rfl) (fun w_ h_ => o_fieldAddr (k := 0) (fun _ => by kernel_rfl) rfl ⟨rfl, rfl⟩) ?_
    refine a_op 3 rfl (by kernel_rfl) (fun w_ h_ => o_fieldAddr (k := 1) (fun _ => by kernel_rfl) rfl ⟨rfl, rfl⟩) ?_
    refine a_op 4 rfl (by kernel_rfl) (fun w_ h_ => o_load1 (v := (.int .i64 v.gsn)) Tryz.underlying3 rfl rfl h_ (seg_sub 0 rfl) (CellsAt.one rfl) ⟨rfl, rfl⟩) ?_
    refine a_op 5 rfl (by kernel_rfl) (fun w_ h_ => o_load1 (v := (.int .i64 h)) Tryz.underlying3 rfl rfl h_ (seg_sub 1 rfl) h_hb ⟨rfl, rfl⟩) ?_
    have hH12 : Has E { w with drawn := w.drawn + 1 } [[Hp.one fb (.cells #[(.int .i64 v.no), (.int .i64 v.gsn), x1, (.bool v.dirty), (.int .i64 v.first), (.int .i64 v.pins)] 126 (0, 0))], R] := ((hH11.front 4 rfl).front 2 rfl).first 2 rfl
    refine a_done (by kernel_rfl) hH12 ?_
    refine r_op 6 rfl (by kernel_rfl) (o_gtr (a := v.gsn) (b := h) rfl rfl ?_)
    refine r_op 7 rfl (by kernel_rfl) (o_assign (v := (.bool (decide (h < v.gsn)))) rfl ?_)
    refine Rest.done (by kernel_rfl) ?_
    refine t_norm (hK10 _ _ ?_)
    refine c_cond rfl (fun h13 => ?_) (fun h13 => ?_)
    · -- h < v.gsn
      refine wp_seq_k fun K14 hK14 => ?_
      refine c_region ?_
      refine s_op (o_assign (v := (.int .i64 10)) rfl ?_)
      refine s_nil ?_
      refine t_norm (hK14 _ _ ?_)
      refine wp_ret ?_
      refine b_ret (t_ret (c_ret1 Tryz.results80  (v := (.int .i64 10)) rfl ?_))
      have hH15 : Has E { w with drawn := w.drawn + 1 } [([Hp.one fb (.cells #[(.int .i64 v.no), (.int .i64 v.gsn), x1, (.bool v.dirty), (.int .i64 v.first), (.int .i64 v.pins)] 126 (0, 0))] ++ s2), [Hp.one nb (.cells #[(.int .i64 m.n)] 3 (0, 0))], sg_tb, R] := Has.cl2 ((hH11.front 2 rfl).front 2 rfl)
      have hd16 : FrmAt fb ([Hp.one fb (.cells #[(.int .i64 v.no), (.int .i64 v.gsn), x1, (.bool v.dirty), (.int .i64 v.first), (.int .i64 v.pins)] 126 (0, 0))] ++ s2) v := FrmAt.mk (v := v) f3
      have hd18 : BxAt nb [Hp.one nb (.cells #[(.int .i64 m.n)] 3 (0, 0))] m := rfl
      exact ⟨_, _, _, rfl, hd16, hd18, h_tb, hH15⟩
    · -- not: h < v.gsn
      exfalso; omega
set_option maxHeartbeats 4000000 in
theorem flf_ok {E w : World} {R : List Hp} {fb : Nat} {sg_fb : List Hp} {v : Frm} {hb : Nat} {h : Int} {pb pl : Nat} {nb : Nat} {sg_nb : List Hp} {m : BxS} {mb : Nat} {rm : Int} {tb : Nat} {sg_tb : List Hp} {t : TwS} {kk : Nat} (hH : Has E w [sg_fb, sg_nb, sg_tb, R]) (h_fb : FrmAt fb sg_fb v) (h_hb : CellsAt R hb 0 [(.int .i64 h)]) (h_pb : CellsAt R pb 0 [(.pointer (some ⟨pl, 0, none⟩))]) (h_nb : BxAt nb sg_nb m) (h_pl : CellsAt R pl 0 [(.pointer (some ⟨tb, 0, none⟩)), (.int .i64 rm), (.map (some mb))]) (h_tb : TwAt tb sg_tb t) (hg : CellsAt R 1 0 nibV) (hd : v.dirty = true) (hle : v.gsn ≤ h) (hs0 : (st1 t.1 t.2 (pgF v)).1 = 0) (hmm : m.n + 1 ≤ 1000000 ∧ 0 ≤ m.n) (hok : TwOk t) (hfw : Few t.1.p kk) (hkk : kk ≤ 700000) :
    Calls Tryz.prog 80 #[(.pointer (some ⟨fb, 0, none⟩)), (.pointer (some ⟨hb, 0, none⟩)), (.pointer (some ⟨pb, 0, none⟩)), (.pointer (some ⟨nb, 0, none⟩))] w fun e w' => ∃ (sg_fb' : List Hp) (sg_nb' : List Hp) (sg_tb' : List Hp), e = .returned (.int .i64 0) ∧ (FrmAt fb sg_fb' (⟨v.no, v.gsn, v.cells, false, v.first, v.pins⟩ : Frm)) ∧ (BxAt nb sg_nb' (⟨m.n + 1⟩ : BxS)) ∧ (TwAt tb sg_tb' ((st1 t.1 t.2 (pgF v)).2, t.2)) ∧ Has E w' [sg_fb', sg_nb', sg_tb', R] := by
  obtain ⟨x1, s2, rfl, f3⟩ := h_fb
  have hH4 : Has E w [[Hp.one fb (.cells #[(.int .i64 v.no), (.int .i64 v.gsn), x1, (.bool v.dirty), (.int .i64 v.first), (.int .i64 v.pins)] 126 (0, 0))], s2, sg_nb, sg_tb, R] := Has.op2 hH
  obtain rfl := (show sg_nb = _ from h_nb)
  have hH5 := (hH4.front 2 rfl)
  refine c_enter (args := [(.pointer (some ⟨fb, 0, none⟩)), (.pointer (some ⟨hb, 0, none⟩)), (.pointer (some ⟨pb, 0, none⟩)), (.pointer (some ⟨nb, 0, none⟩))]) Tryz.func80 rfl Tryz.ntmps80 (by simp) ?_
  refine wp_seq_k fun K6 hK6 => ?_
  refine c_region ?_
  refine s_op (o_assign (v := (.int .i64 0)) rfl ?_)
  refine s_nil ?_
  refine t_norm (hK6 _ _ ?_)
  refine wp_seq_k fun K7 hK7 => ?_
  refine wp_block ?_
  refine wp_seq_k fun K8 hK8 => ?_
  refine c_region ?_
  refine s_op (o_move (v := (.pointer (some ⟨fb, 0, none⟩))) rfl ?_)
  refine s_op (o_nilCheck rfl ?_)
  refine s_op (o_fieldAddr (k := 3) (fun _ => by kernel_rfl) rfl ?_)
  refine s_op (o_load1 (v := (.bool v.dirty)) Tryz.underlying4 rfl rfl hH5 (seg_sub 1 rfl) (CellsAt.one rfl) ?_)
  refine s_op (o_not rfl ?_)
  refine s_op (o_assign (v := (.bool (!v.dirty))) rfl ?_)
  refine s_nil ?_
  refine t_norm (hK8 _ _ ?_)
  refine c_condb rfl (fun h9 => ?_) (fun h9 => ?_)
  · -- !v.dirty
    have h9_n : v.dirty = false := by first | simpa using h9 | exact Bool.of_not_eq_true (fun g_ => by rw [g_] at h9; cases h9)
    exact absurd h9 (by rw [hd]; decide)
  · -- not: !v.dirty
    have h9_n : v.dirty = true := by first | simpa using h9 | exact Bool.of_not_eq_false (fun g_ => by rw [g_] at h9; cases h9)
    refine wp_seq_k fun K10 hK10 => ?_
    refine Rest.region mixed (by kernel_rfl) ?_
    have hH11 : Has E { w with drawn := w.drawn + 1 } [[Hp.one nb (.cells #[(.int .i64 m.n)] 3 (0, 0))], [Hp.one fb (.cells #[(.int .i64 v.no), (.int .i64 v.gsn), x1, (.bool v.dirty), (.int .i64 v.first), (.int .i64 v.pins)] 126 (0, 0))], s2, sg_tb, R] := Has0.drew hH5 _
    refine Rest.phaseA (fun w_ => Has E w_ [[Hp.one fb (.cells #[(.int .i64 v.no), (.int .i64 v.gsn), x1, (.bool v.dirty), (.int .i64 v.first), (.int .i64 v.pins)] 126 (0, 0))], R]) 0 6 6 rfl (by decide) (by kernel_rfl) ?_
    refine a_op 0 rfl (by kernel_rfl) (fun w_ h_ => o_move (v := (.pointer (some ⟨fb, 0, none⟩))) rfl ⟨rfl, rfl⟩) ?_
    refine a_op 1 rfl (by kernel_rfl) (fun w_ h_ => o_nilCheck rfl ⟨rfl, rfl⟩) ?_
    refine a_op 2 rfl (by kernel_rfl) (fun w_ h_ => o_fieldAddr (k := 0) (fun _ => by kernel_rfl) rfl ⟨rfl, rfl⟩) ?_
    refine a_op 3 rfl (by kernel_rfl) (fun w_ h_ => o_fieldAddr (k := 1) (fun _ => by kernel_rfl) rfl ⟨rfl, rfl⟩) ?_
    refine a_op 4 rfl (by kernel_rfl) (fun w_ h_ => o_load1 (v := (.int .i64 v.gsn)) Tryz.underlying3 rfl rfl h_ (seg_sub 0 rfl) (CellsAt.one rfl) ⟨rfl, rfl⟩) ?_
    refine a_op 5 rfl (by kernel_rfl) (fun w_ h_ => o_load1 (v := (.int .i64 h)) Tryz.underlying3 rfl rfl h_ (seg_sub 1 rfl) h_hb ⟨rfl, rfl⟩) ?_
    have hH12 : Has E { w with drawn := w.drawn + 1 } [[Hp.one fb (.cells #[(.int .i64 v.no), (.int .i64 v.gsn), x1, (.bool v.dirty), (.int .i64 v.first), (.int .i64 v.pins)] 126 (0, 0))], R] := ((hH11.front 4 rfl).front 2 rfl).first 2 rfl
    refine a_done (by kernel_rfl) hH12 ?_
    refine r_op 6 rfl (by kernel_rfl) (o_gtr (a := v.gsn) (b := h) rfl rfl ?_)
    refine r_op 7 rfl (by kernel_rfl) (o_assign (v := (.bool (decide (h < v.gsn)))) rfl ?_)
    refine Rest.done (by kernel_rfl) ?_
    refine t_norm (hK10 _ _ ?_)
    refine c_cond rfl (fun h13 => ?_) (fun h13 => ?_)
    · -- h < v.gsn
      exfalso; omega
    · -- not: h < v.gsn
      refine wp_skip ?_
      refine b_norm ?_
      refine t_norm (hK7 _ _ ?_)
      refine wp_seq_k fun K14 hK14 => ?_
      refine Rest.region mixed (by kernel_rfl) ?_
      have hH15 : Has E { { w with drawn := w.drawn + 1 } with drawn := { w with drawn := w.drawn + 1 }.drawn + 1 } [[Hp.one nb (.cells #[(.int .i64 m.n)] 3 (0, 0))], [Hp.one fb (.cells #[(.int .i64 v.no), (.int .i64 v.gsn), x1, (.bool v.dirty), (.int .i64 v.first), (.int .i64 v.pins)] 126 (0, 0))], s2, sg_tb, R] := Has0.drew hH11 _
      refine Rest.phaseA (fun w_ => Has E w_ [[Hp.one fb (.cells #[(.int .i64 v.no), (.int .i64 v.gsn), x1, (.bool v.dirty), (.int .i64 v.first), (.int .i64 v.pins)] 126 (0, 0))], R]) 0 9 9 rfl (by decide) (by kernel_rfl) ?_
      refine a_op 0 rfl (by kernel_rfl) (fun w_ h_ => o_load1 (v := (.pointer (some ⟨pl, 0, none⟩))) Tryz.underlying65 rfl rfl h_ (seg_sub 1 rfl) h_pb ⟨rfl, rfl⟩) ?_
      refine a_op 1 rfl (by kernel_rfl) (fun w_ h_ => o_nilCheck rfl ⟨rfl, rfl⟩) ?_
      refine a_op 2 rfl (by kernel_rfl) (fun w_ h_ => o_fieldAddr (k := 0) (fun _ => by kernel_rfl) rfl ⟨rfl, rfl⟩) ?_
      refine a_op 3 rfl (by kernel_rfl) (fun w_ h_ => o_load1 (v := (.pointer (some ⟨tb, 0, none⟩))) Tryz.underlying25 rfl rfl h_ (seg_sub 1 rfl) (CellsAt.field (k := 0) (ds := [(.pointer (some ⟨tb, 0, none⟩))]) h_pl rfl) ⟨rfl, rfl⟩) ?_
      refine a_op 4 rfl (by kernel_rfl) (fun w_ h_ => o_move (v := (.pointer (some ⟨fb, 0, none⟩))) rfl ⟨rfl, rfl⟩) ?_
      refine a_op 5 rfl (by kernel_rfl) (fun w_ h_ => o_nilCheck rfl ⟨rfl, rfl⟩) ?_
      refine a_op 6 rfl (by kernel_rfl) (fun w_ h_ => o_fieldAddr (k := 0) (fun _ => by kernel_rfl) rfl ⟨rfl, rfl⟩) ?_
      refine a_op 7 rfl (by kernel_rfl) (fun w_ h_ => o_loadN (cs := [(.int .i64 v.no), (.int .i64 v.gsn), x1]) Tryz.underlying36 rfl ti36 rfl h_ (seg_sub 0 rfl) (CellsAt.one rfl) ⟨rfl, rfl⟩) ?_
      have hH16 : Has E { { w with drawn := w.drawn + 1 } with drawn := { w with drawn := w.drawn + 1 }.drawn + 1 } [[Hp.one fb (.cells #[(.int .i64 v.no), (.int .i64 v.gsn), x1, (.bool v.dirty), (.int .i64 v.first), (.int .i64 v.pins)] 126 (0, 0))], R] := ((hH15.front 4 rfl).front 2 rfl).first 2 rfl
      refine a_w 8 rfl (by kernel_rfl) hH16 (o_buildSlice (ps := #[(0, (.agg #[(.int .i64 v.no), (.int .i64 v.gsn), x1]))]) (cells := #[(.int .i64 v.no), (.int .i64 v.gsn), x1]) Tryz.underlying31 ti36 (by decide) (parts1 rfl) (by kernel_rfl) hH15 fun b17 w18 hH19 => ?_)
      have hH20 : Has E w18 [[Hp.one fb (.cells #[(.int .i64 v.no), (.int .i64 v.gsn), x1, (.bool v.dirty), (.int .i64 v.first), (.int .i64 v.pins)] 126 (0, 0))], R] := ((hH19.front 5 rfl).front 3 rfl).first 2 rfl
      refine a_done (by kernel_rfl) hH20 ?_
      refine r_op 9 rfl (by kernel_rfl) (o_callf (vs := #[(.pointer (some ⟨tb, 0, none⟩)), (.slice (some ⟨b17, 0, none⟩) 1 1)]) ca18 rfl (args2 rfl rfl) (tsw_c (v := t) (hH19.front 4 rfl).all1 h_tb hok hfw (by omega) (hg.mono (seg_sub 4 rfl)) (a := ((v.no, v.gsn, x1, v.cells) : Pg)) ((sl_litF (f := pgC) (l := [((v.no, v.gsn, x1, v.cells) : Pg)]) pgC_len rfl rfl (by simp)).mono (seg_sub 0 rfl)) (c_in f3 (seg_sub 3 rfl))) ?_)
      rintro _ w25 ⟨sg21, rfl, hd22, hX23⟩
      refine ⟨_, rfl, ?_⟩
      have hH24 : Has E w25 [sg21, [Hp.one b17 (.cells #[(.int .i64 v.no), (.int .i64 v.gsn), x1] 36 (0, 0))], [Hp.one nb (.cells #[(.int .i64 m.n)] 3 (0, 0))], [Hp.one fb (.cells #[(.int .i64 v.no), (.int .i64 v.gsn), x1, (.bool v.dirty), (.int .i64 v.first), (.int .i64 v.pins)] 126 (0, 0))], s2, R] := hX23.of_all1
      refine r_op 10 rfl (by kernel_rfl) (o_assign (v := (.int .i64 ((st1 t.1 t.2 (pgF v)).1))) rfl ?_)
      refine Rest.done (by kernel_rfl) ?_
      refine t_norm (hK14 _ _ ?_)
      refine wp_seq_k fun K26 hK26 => ?_
      refine wp_seq_k fun K27 hK27 => ?_
      refine c_region ?_
      refine s_op (o_move (v := (.int .i64 ((st1 t.1 t.2 (pgF v)).1))) rfl ?_)
      refine s_op (o_eql (a := (st1 t.1 t.2 (pgF v)).1) (b := 0) rfl rfl ?_)
      refine s_nil ?_
      refine t_norm (hK27 _ _ ?_)
      refine c_cond rfl (fun h28 => ?_) (fun h28 => ?_)
      · -- (st1 t.1 t.2 (pgF v)).1 = 0
        refine wp_seq_k fun K29 hK29 => ?_
        refine c_region ?_
        refine s_op (o_move (v := (.pointer (some ⟨fb, 0, none⟩))) rfl ?_)
        refine s_op (o_nilCheck rfl ?_)
        refine s_op (o_fieldAddr (k := 3) (fun _ => by kernel_rfl) rfl ?_)
        refine s_eff (o_store1 (c' := #[(.int .i64 v.no), (.int .i64 v.gsn), x1, (.bool false), (.int .i64 v.first), (.int .i64 v.pins)]) ti4 rfl rfl rfl (by simp) rfl (hH24.front 3 rfl) fun w30 hH31 => ?_)
        refine s_nil ?_
        refine t_norm (hK29 _ _ ?_)
        refine c_region ?_
        refine s_op (o_load1 (v := (.int .i64 m.n)) Tryz.underlying3 rfl rfl hH31 (seg_sub 3 rfl) (CellsAt.one rfl) ?_)
        refine s_op (o_add (a := m.n) (b := 1) rfl rfl (w64 (by omega) (by omega)) ?_)
        refine s_eff (o_store1 (c' := #[(.int .i64 (m.n + 1))]) ti3 rfl rfl rfl (by simp) rfl (hH31.front 3 rfl) fun w32 hH33 => ?_)
        refine s_nil ?_
        refine t_norm (hK26 _ _ ?_)
        refine wp_seq_k fun K34 hK34 => ?_
        refine c_region ?_
        refine s_op (o_move (v := (.int .i64 ((st1 t.1 t.2 (pgF v)).1))) rfl ?_)
        refine s_op (o_assign (v := (.int .i64 ((st1 t.1 t.2 (pgF v)).1))) rfl ?_)
        refine s_nil ?_
        refine t_norm (hK34 _ _ ?_)
        refine wp_ret ?_
        refine c_ret1 Tryz.results80  (v := (.int .i64 ((st1 t.1 t.2 (pgF v)).1))) rfl ?_
        have q35 : 0 = (st1 t.1 t.2 (pgF v)).1 := by first | rfl | exact hs0.symm
        have hH36 : Has E w32 [([Hp.one fb (.cells #[(.int .i64 v.no), (.int .i64 v.gsn), x1, (.bool false), (.int .i64 v.first), (.int .i64 v.pins)] 126 (0, 0))] ++ s2), [Hp.one nb (.cells #[(.int .i64 (m.n + 1))] 3 (0, 0))], sg21, [Hp.one b17 (.cells #[(.int .i64 v.no), (.int .i64 v.gsn), x1] 36 (0, 0))], R] := Has.cl2 ((hH33.front 4 rfl).front 2 rfl)
        have hd37 : FrmAt fb ([Hp.one fb (.cells #[(.int .i64 v.no), (.int .i64 v.gsn), x1, (.bool false), (.int .i64 v.first), (.int .i64 v.pins)] 126 (0, 0))] ++ s2) (⟨v.no, v.gsn, v.cells, false, v.first, v.pins⟩ : Frm) := FrmAt.mk (v := (⟨v.no, v.gsn, v.cells, false, v.first, v.pins⟩ : Frm)) f3
        have hd39 : BxAt nb [Hp.one nb (.cells #[(.int .i64 (m.n + 1))] 3 (0, 0))] (⟨m.n + 1⟩ : BxS) := rfl
        have hH40 : Has E w32 [([Hp.one fb (.cells #[(.int .i64 v.no), (.int .i64 v.gsn), x1, (.bool false), (.int .i64 v.first), (.int .i64 v.pins)] 126 (0, 0))] ++ s2), [Hp.one nb (.cells #[(.int .i64 (m.n + 1))] 3 (0, 0))], sg21, R] := ((((hH36.front 4 rfl).front 3 rfl).front 3 rfl).front 3 rfl).first 4 rfl
        exact ⟨_, _, _, by rw [q35], hd37, hd39, hd22, hH40⟩
      · -- not: (st1 t.1 t.2 (pgF v)).1 = 0
        exact absurd hs0 h28
end Go.Q
namespace Go.Q
open Go.Proofs Go.Shelf
def kyf_ren : Go.Shelf.Ren := ⟨fun | 7 => 87 | 10 => 114 | n => n, fun | 23 => 79 | 26 => 3 | 3 => 123 | 28 => 112 | 0 => 0 | 27 => 111 | 33 => 117 | 4 => 4 | n => n, fun | n => n⟩
theorem kyf : Go.Proofs.SlLaysZI.n7 Tryz.prog kyf_ren := {
  mixed := by kernel_rfl
  f7 := ⟨Tryz.f87.name, by decide, Tryz.func87.trans (congrArg some (by kernel_rfl))⟩
  f10 := ⟨Tryz.f114.name, by decide, Tryz.func114.trans (congrArg some (by kernel_rfl))⟩
  t0 := Tryz.underlying0
  a0 := Tryz.isAgg0
  z0 := Tryz.sizeOf0
  v0 := Tryz.zeroValue0
  t4 := Tryz.underlying4
  a4 := Tryz.isAgg4
  z4 := Tryz.sizeOf4
  v4 := Tryz.zeroValue4
  t23 := Tryz.underlying79
  a23 := Tryz.isAgg79
  z23 := Tryz.sizeOf79
  v23 := Tryz.zeroValue79
  t26 := Tryz.underlying3
  a26 := Tryz.isAgg3
  z26 := Tryz.sizeOf3
  v26 := Tryz.zeroValue3
  t27 := Tryz.underlying111
  a27 := Tryz.isAgg111
  z27 := Tryz.sizeOf111
  v27 := Tryz.zeroValue111
  t28 := Tryz.underlying112
  a28 := Tryz.isAgg112
  z28 := Tryz.sizeOf112
  v28 := Tryz.zeroValue112
  t33 := Tryz.underlying117
  a33 := Tryz.isAgg117
  z33 := Tryz.sizeOf117
  v33 := Tryz.zeroValue117 }
theorem fkeys_c {E w : World} {ss : List Hp} (H : Has E w [ss]) (mb : Nat) : Calls Tryz.prog 87 #[.map (some mb)] w fun e w' => ∃ b, e = .returned (.func (.func 114) #[] #[.pointer (some ⟨b, 0, none⟩)]) ∧ Has E w' [[Hp.one b (.cells #[.map (some mb)] 79 (0, 0))], ss] := by
  refine (callsIn_wide.1 (AnyZI.keys_in kyf Fence.wide 5 trivial rfl (some mb) w)).mono fun e w' ⟨he, hw⟩ => ⟨w.heap.size, he, ?_⟩
  rw [hw]
  exact H.alloc _
set_option maxRecDepth 100000 in
theorem MapV.ownsI {β : Type} {f : β → Value} {es : Array MapEntry} {c : Nat} {lo : List (Int × β)} (h : MapV iV f es c lo) {w : World} {b : Nat} (hb : w.heap[b]? = some (.map es c)) {k : TypeId} (hk : Tryz.prog.underlying k = some (.int .i64))
    (hw : ∀ p ∈ lo, (Lit.int .i64 p.1).wf = true) (hn : lo.length ≤ 1000000) : ∃ D : DataW Nat, w.ownsMap Tryz.prog k (fun _ => some (.lit (.bool true), [])) b lo.length D ∧ Maps.size D = lo.length ∧ (intKeys D).Perm (lo.map (·.1)) := by
  have hkey : ∀ x ∈ es.toList, ∃ p ∈ lo, x.key = .int .i64 p.1 := fun x hx => by
    have : x.key ∈ es.toList.map (·.key) := List.mem_map.2 ⟨x, hx, rfl⟩
    rw [h.keys] at this
    obtain ⟨p, hp, e⟩ := List.mem_map.1 this
    exact ⟨p, hp, e.symm⟩
  have hrd : ∀ x ∈ es.toList, ∃ p ∈ lo, x.key = .int .i64 p.1 ∧ Go.WideElems.rd (H := Nat) Tryz.prog k (fun _ => some (.lit (.bool true), [])) x = some (.int .i64 p.1, .lit (.bool true)) := fun x hx => by
    obtain ⟨p, hp, e⟩ := hkey x hx
    refine ⟨p, hp, e, ?_⟩
    unfold Go.WideElems.rd
    rw [e, Go.Maps.keyOf_int_mk hk (hw p hp)]; rfl
  have hsz := h.size
  refine ⟨.map ((es.toList.map (Go.WideElems.rg Tryz.prog k (fun _ => some (.lit (.bool true), [])))).foldr DataW.insert []), ⟨es, c, hb, ⟨by rw [hsz]; simp only [maxLen]; omega, h.2, fun x hx => by obtain ⟨p, _, _, e⟩ := hrd x hx; exact ⟨_, e⟩⟩, by omega, rfl⟩, ?_, ?_⟩
  · show List.length _ = _
    rw [(Go.WideShapes.sorted_perm _).length_eq, List.length_map]; simpa using hsz
  · show (List.map (fun p : Lit × DataW Nat => intOf p.1) _).Perm _
    refine ((Go.WideShapes.sorted_perm _).map _).trans ?_
    rw [List.map_map]
    have e1 : es.toList.map ((fun p : Lit × DataW Nat => intOf p.1) ∘ Go.WideElems.rg Tryz.prog k (fun _ => some (.lit (.bool true), []))) = es.toList.map (fun x => match x.key with | .int _ a => a | _ => 0) := List.map_congr_left fun x hx => by
      obtain ⟨p, _, e, g⟩ := hrd x hx
      show intOf (Go.WideElems.rg _ _ _ x).1 = _
      unfold Go.WideElems.rg
      rw [g, e]; rfl
    have e2 : es.toList.map (fun x => match x.key with | .int _ a => a | _ => 0) = lo.map (·.1) := by
      have := congrArg (List.map (fun v : Value => match v with | .int _ a => a | _ => (0 : Int))) h.keys
      rw [List.map_map, List.map_map] at this
      exact this
    rw [e1, e2]
theorem fsorted_c {β : Type} {E w : World} {R : List Hp} {b mb c : Nat} {es : Array MapEntry} {lo : List (Int × β)} {f : β → Value} (H : Has E w [[Hp.one b (.cells #[.map (some mb)] 79 (0, 0))], R]) (hmb : Hp.one mb (.map es c) ∈ R) (hm : MapV iV f es c lo)
    (hw : ∀ p ∈ lo, (Lit.int .i64 p.1).wf = true) (hn : lo.length ≤ 1000000) :
    Calls Tryz.prog 57 #[.func (.func 114) #[] #[.pointer (some ⟨b, 0, none⟩)]] w fun e w' => ∃ v hs, e = .returned v ∧ Own 3 1 v ((lo.map (·.1)).mergeSort (fun x y => decide (x ≤ y))).length (((lo.map (·.1)).mergeSort (fun x y => decide (x ≤ y))).map iV) hs ∧ Has E w' [hs, [Hp.one b (.cells #[.map (some mb)] 79 (0, 0))], R] := by
  have hb1 : w.heap[b]? = some (.cells #[.map (some mb)] 79 (0, 0)) := H.at (h := Hp.one b (.cells #[.map (some mb)] 79 (0, 0))) (by simp) (Hp.one_at _ _)
  have hb2 : w.heap[mb]? = some (.map es c) := H.at (h := Hp.one mb (.map es c)) (by simp [hmb]) (Hp.one_at _ _)
  obtain ⟨D, hown, hsz, hperm⟩ := hm.ownsI hb2 (k := 3) Tryz.underlying3 hw hn
  have hlt : b < w.heap.size := (Array.getElem?_eq_some_iff.1 hb1).1
  have hseq : SeqGives Fence.wide 2 Tryz.prog 114 #[.pointer (some ⟨b, 0, none⟩)] encZ (fun ss => ss.Perm (intKeys D)) (Maps.size D) w :=
    AnyZI.keys_gives (ρ := kyf_ren) { kyf with } Fence.wide _ trivial rfl (by omega) b mb lo.length D w hlt (by simp [World.cell?, hb1]) hown
  have hs := AnyZI.sorted_in stl Fence.wide 5 trivial trivial trivial trivial rfl (by omega) (srl_in _) (enters_of Tryz.func100 (by kernel_rfl) rfl) 114 #[.pointer (some ⟨b, 0, none⟩)] trivial (enters_of Tryz.func114 (by kernel_rfl) rfl) _ (Maps.size D) (by simp only [maxLen]; omega) (by omega) w hseq
  refine (callsIn_wide.1 hs).mono fun e w' ⟨v, ss, he, hp, hrow, _, hbl⟩ => ?_
  obtain ⟨hs', ho, hH⟩ := H.row hbl hrow
  have e1 : ss.mergeSort (fun x y => decide (x ≤ y)) = ((lo.map (·.1)).mergeSort (fun x y => decide (x ≤ y))) := mergeSort_of_perm_i (hp.trans hperm)
  have hl : ss.length = ((lo.map (·.1)).mergeSort (fun x y => decide (x ≤ y))).length := by rw [← e1, List.length_mergeSort]
  rw [e1, hl] at ho
  exact ⟨v, hs', he, ho, hH⟩
theorem fdir_c {σ : Type} {E w : World} {R : List Hp} {b mb : Nat} {Rd : List Hp → Nat → σ → Prop} {lo : List (Int × σ)} (H : Has E w [[Hp.one b (.cells #[.map (some mb)] 79 (0, 0))], R]) (hd : DirRd iV Rd R mb lo)
    (hw : ∀ p ∈ lo, (Lit.int .i64 p.1).wf = true) (hn : lo.length ≤ 1000000) :
    Calls Tryz.prog 57 #[.func (.func 114) #[] #[.pointer (some ⟨b, 0, none⟩)]] w fun e w' => ∃ v hs, e = .returned v ∧ Own 3 1 v ((lo.map (·.1)).mergeSort (fun x y => decide (x ≤ y))).length (((lo.map (·.1)).mergeSort (fun x y => decide (x ≤ y))).map iV) hs ∧ Has E w' [hs, [Hp.one b (.cells #[.map (some mb)] 79 (0, 0))], R] := by
  obtain ⟨es, c, L, h1, h2, _, rfl⟩ := hd
  rw [what_keys]
  refine fsorted_c H h1 h2 (fun p hp => ?_) (by have := congrArg List.length (what_keys L); simp only [List.length_map] at this; omega)
  have : p.1 ∈ (what L).map (·.1) := by rw [what_keys]; exact List.mem_map.2 ⟨p, hp, rfl⟩
  obtain ⟨q, hq, e⟩ := List.mem_map.1 this
  rw [← e]; exact hw q hq
end Go.Q
