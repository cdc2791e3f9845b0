/-
  Parts of a walk: what functions of the program compute, each told by a theorem (QELk11, QSlh, QELk12, QLockL, QELk13, QELk14, QEq, QEEq, QELkN, QY).
-/
import Derived.Test.YtcffibbdbalmjaaB3
import Derived.Laws.StructEq
import Derived.ChangeArms
import Derived.WideShapes
import Derived.DataElems
set_option linter.unusedVariables false
set_option linter.unusedSimpArgs false
namespace Go.Q
open Go.Proofs
set_option linter.unusedVariables false
set_option maxRecDepth 100000
attribute [local irreducible] wpList OK Code.wp
set_option maxHeartbeats 4000000 in
theorem pgrow_c {E w : World} {R : List Hp}  {n : Int}  (hH : Has E w [R]) (hn : 0 ≤ n ∧ n ≤ 1000000) :
    Calls Try.prog 135 #[(.slice none 0 0), (.int .i64 n)] w fun e w' => ∃ (v1' : Value) (s2' : List Hp), e = .returned v1' ∧ (Own 170 3 v1' ([] : List Plc).length (([] : List Plc).flatMap plC) s2') ∧ Has E w' [s2', R] := by
  obtain ⟨hn1_, hn2_⟩ := hn
  refine c_enter (args := [(.slice none 0 0), (.int .i64 n)]) Try.func135 rfl Try.ntmps135 (by simp) ?_
  refine wp_seq_k fun K1 hK1 => ?_
  refine c_region ?_
  refine s_op (o_assign (v := (.slice none 0 0)) rfl ?_)
  refine s_nil ?_
  refine t_norm (hK1 _ _ ?_)
  refine wp_seq_k fun K2 hK2 => ?_
  refine wp_seq_k fun K3 hK3 => ?_
  refine c_region ?_
  refine s_op (o_move (v := (.int .i64 n)) rfl ?_)
  refine s_op (o_lss (a := n) (b := 0) rfl rfl ?_)
  refine s_nil ?_
  refine t_norm (hK3 _ _ ?_)
  refine c_cond rfl (fun h4 => ?_) (fun h4 => ?_)
  · -- n < 0
    exfalso; omega
  · -- not: n < 0
    refine wp_skip ?_
    refine t_norm (hK2 _ _ ?_)
    refine wp_seq_k fun K5 hK5 => ?_
    refine wp_seq_k fun K6 hK6 => ?_
    refine c_region ?_
    refine s_op (o_move (v := (.int .i64 n)) rfl ?_)
    refine s_op (o_move (v := (.slice none 0 0)) rfl ?_)
    refine s_op (o_cap Try.underlying166 rfl ?_)
    refine s_op (o_move (v := (.slice none 0 0)) rfl ?_)
    refine s_op (o_lenS Try.underlying166 rfl (sl_nil (L := []) 1) ?_)
    refine s_op (o_sub (a := ((0 : Nat) : Int)) (b := ((0 : Nat) : Int)) rfl rfl (w64 (by omega) (by omega)) ?_)
    refine s_op (o_sub (a := n) (b := ((0 : Nat) : Int) - ((0 : Nat) : Int)) rfl rfl (w64 (by omega) (by omega)) ?_)
    refine s_op (o_assign (v := (.int .i64 (n - (((0 : Nat) : Int) - ((0 : Nat) : Int))))) rfl ?_)
    refine s_nil ?_
    refine t_norm (hK6 _ _ ?_)
    refine wp_seq_k fun K7 hK7 => ?_
    refine c_region ?_
    refine s_op (o_move (v := (.int .i64 (n - (((0 : Nat) : Int) - ((0 : Nat) : Int))))) rfl ?_)
    refine s_op (o_gtr (a := n - (((0 : Nat) : Int) - ((0 : Nat) : Int))) (b := 0) rfl rfl ?_)
    refine s_nil ?_
    refine t_norm (hK7 _ _ ?_)
    refine c_cond rfl (fun h8 => ?_) (fun h8 => ?_)
    · -- 0 < n - (((0 : Nat) : Int) - ((0 : Nat) : Int))
      refine c_region ?_
      refine s_op (o_move (v := (.slice none 0 0)) rfl ?_)
      refine s_op (o_move (v := (.slice none 0 0)) rfl ?_)
      refine s_op (o_cap Try.underlying166 rfl ?_)
      refine s_op (o_slnil Try.underlying166 ti170 rfl rfl (by omega) ?_)
      refine s_op (o_move (v := (.int .i64 (n - (((0 : Nat) : Int) - ((0 : Nat) : Int))))) rfl ?_)
      refine s_op (o_appmake (m := (n - (((0 : Nat) : Int) - ((0 : Nat) : Int))).toNat) (cs := []) Try.underlying166 Try.underlying3 ti170 rfl (by decide) rfl (sl_nil 3) rfl (by omega) hH (List.nil_subset _) (by omega) (by omega) (by omega) fun b18 c19 p20 w21 hs23 hr24 hm25 ht26 hH22 => ?_)
      refine s_op (o_move (v := (.slice none 0 0)) rfl ?_)
      refine s_op (o_lenS Try.underlying166 rfl (sl_nil (L := []) 1) ?_)
      obtain ⟨o27, n28, c29, ho33, hn30, hc31, hq32⟩ := rsl_ex4 0 3 (i := 0) (j := ((0 : Nat) : Int)) (m := ((p20 : Nat) : Int)) (by omega) (by omega) (by omega)
      refine s_op (o_rsl2 (i := 0) (j := ((0 : Nat) : Int)) (m := ((p20 : Nat) : Int)) Try.underlying166 ti170 rfl (bounds_h (n := (0 + (n - (((0 : Nat) : Int) - ((0 : Nat) : Int))).toNat)) (cap := p20) (j := ((0 : Nat) : Int)) (by omega) (by omega)) (by omega) (by omega) (by omega) ho33 hn30 hc31 ?_)
      refine s_op (o_assign (v := (.slice (some ⟨b18, o27, none⟩) n28 c29)) rfl ?_)
      refine s_nil ?_
      refine t_norm (hK5 _ _ ?_)
      refine wp_seq_k fun K34 hK34 => ?_
      refine c_region ?_
      refine s_op (o_move (v := (.slice (some ⟨b18, o27, none⟩) n28 c29)) rfl ?_)
      refine s_op (o_assign (v := (.slice (some ⟨b18, o27, none⟩) n28 c29)) rfl ?_)
      refine s_nil ?_
      refine t_norm (hK34 _ _ ?_)
      refine wp_ret ?_
      refine c_ret1 Try.results135  (v := (.slice (some ⟨b18, o27, none⟩) n28 c29)) rfl ?_
      refine ⟨_, _, rfl, ⟨rfl, .inr ⟨b18, c29, c19, by rw [show n28 = 0 from by omega, show (o27 : Nat) = 0 from by omega]; rfl, rfl, by simp, by simp only [maxLen]; omega, ?_, by simp⟩⟩, hH22⟩
      · rw [hs23]; congr 1; omega
    · -- not: 0 < n - (((0 : Nat) : Int) - ((0 : Nat) : Int))
      refine wp_skip ?_
      refine t_norm (hK5 _ _ ?_)
      refine wp_seq_k fun K35 hK35 => ?_
      refine c_region ?_
      refine s_op (o_move (v := (.slice none 0 0)) rfl ?_)
      refine s_op (o_assign (v := (.slice none 0 0)) rfl ?_)
      refine s_nil ?_
      refine t_norm (hK35 _ _ ?_)
      refine wp_ret ?_
      refine c_ret1 Try.results135  (v := (.slice none 0 0)) rfl ?_
      exact ⟨_, _, rfl, Own.nil 170 3, Has.nil hH⟩
set_option maxHeartbeats 4000000 in
theorem pconcat_c {E w : World} {R : List Hp} {v_ls : Value} {ls : List (Value × List Plc)}  (hH : Has E w [R]) (h_ls : Sl R 1 v_ls ls.length (ls.map rwV)) (hq : ∀ q ∈ ls, Sl R 3 (rwV q) q.2.length (q.2.flatMap plC)) (hn : (ls.flatMap (fun q_ : Value × List Plc => q_.2)).length ≤ 1000000) :
    Calls Try.prog 96 #[v_ls] w fun e w' => ∃ (v1' : Value) (s2' : List Hp), e = .returned v1' ∧ (Own 170 3 v1' (ls.flatMap (fun q_ : Value × List Plc => q_.2)).length ((ls.flatMap (fun q_ : Value × List Plc => q_.2)).flatMap plC) s2') ∧ Has E w' [s2', R] := by
  refine c_enter (args := [v_ls]) Try.func96 rfl Try.ntmps96 (by simp) ?_
  refine wp_seq_k fun K1 hK1 => ?_
  refine c_region ?_
  refine s_op (o_assign (v := (.slice none 0 0)) rfl ?_)
  refine s_nil ?_
  refine t_norm (hK1 _ _ ?_)
  refine wp_seq_k fun K2 hK2 => ?_
  refine c_region ?_
  refine s_op (o_assign (v := (.int .i64 0)) rfl ?_)
  refine s_nil ?_
  refine t_norm (hK2 _ _ ?_)
  refine wp_seq_k fun K3 hK3 => ?_
  refine wp_seq_k fun K4 hK4 => ?_
  refine c_region ?_
  refine s_op (o_move (v := v_ls) rfl ?_)
  refine s_op (o_lenS Try.underlying217 rfl h_ls ?_)
  refine s_op (o_move (v := (.int .i64 0)) rfl ?_)
  refine s_nil ?_
  refine t_norm (hK4 _ _ ?_)
  refine wp_block ?_
  let I6 : Nat → (Nat → Value) → World → Prop := fun n__ r__ w__ => ∃ (k : Nat) (sm : Int), n__ = ls.length - k ∧ Has E w__ [R] ∧ (k ≤ ls.length) ∧ (sm = (((ls.take k).flatMap (fun q_ : Value × List Plc => q_.2)).length : Int)) ∧ r__ 0 = v_ls ∧ r__ 2 = (.slice none 0 0) ∧ r__ 3 = (.int .i64 sm) ∧ r__ 9 = v_ls ∧ r__ 10 = (.int .i64 ((ls.length : Nat) : Int)) ∧ r__ 11 = (.int .i64 (k : Int))
  refine c_loop I6 _ ⟨0, 0, rfl, hH, Nat.zero_le _, rfl, rfl, rfl, rfl, rfl, rfl, rfl⟩ ?_
  rintro n_ r9 w7 ⟨k, sm, rfl, hH8, hk, hsm, e5_0, e5_2, e5_3, e5_9, e5_10, e5_11⟩
  have ht_ := flat_take_len (fun q_ : Value × List Plc => q_.2) ls k
  have hv_ := h_ls.le
  refine wp_seq_k fun K10 hK10 => ?_
  refine c_region ?_
  refine s_op (o_lss (a := (k : Int)) (b := ((ls.length : Nat) : Int)) e5_11 e5_10 ?_)
  refine s_nil ?_
  refine t_norm (hK10 _ _ ?_)
  refine wp_seq_k fun K11 hK11 => ?_
  refine c_cond rfl (fun h12 => ?_) (fun h12 => ?_)
  · -- (k : Int) < ((ls.length : Nat) : Int)
    refine wp_skip ?_
    refine t_norm (hK11 _ _ ?_)
    refine wp_seq_k fun K13 hK13 => ?_
    refine wp_block ?_
    refine wp_seq_k fun K14 hK14 => ?_
    refine c_region ?_
    obtain ⟨x18, hx19⟩ : ∃ x_, ls[((k : Int)).toNat]? = some x_ := get_some (by omega)
    refine s_op (o_index1 Try.underlying217 ti166 e5_9 h_ls e5_11 (by omega) hx19 fun b15 o16 hc17 => ?_)
    refine s_op (o_load1 (v := (rwV x18)) Try.underlying166 rfl rfl hH8 (seg_sub 0 rfl) hc17 ?_)
    refine s_op (o_assign (v := (rwV x18)) rfl ?_)
    refine s_nil ?_
    refine t_norm (hK14 _ _ ?_)
    refine wp_seq_k fun K20 hK20 => ?_
    refine c_region ?_
    refine s_op (o_move (v := (.int .i64 sm)) e5_3 ?_)
    refine s_op (o_move (v := (rwV x18)) rfl ?_)
    refine s_op (o_lenS Try.underlying166 rfl (hq _ (List.mem_of_getElem? hx19)) ?_)
    have hr_ := cc_room (out := (ls.take k).flatMap (fun q_ : Value × List Plc => q_.2)) rfl (show ls[k]? = some _ from hx19) hn
    refine s_op (o_add (a := sm) (b := ((x18.2.length : Nat) : Int)) rfl rfl (w64 (by omega) (by omega)) ?_)
    refine s_op (o_assign (v := (.int .i64 (sm + ((x18.2.length : Nat) : Int)))) rfl ?_)
    refine s_nil ?_
    refine t_norm (hK20 _ _ ?_)
    refine wp_seq_k fun K21 hK21 => ?_
    refine c_region ?_
    refine s_op (o_move (v := (.int .i64 (sm + ((x18.2.length : Nat) : Int)))) rfl ?_)
    refine s_op (o_lss (a := sm + ((x18.2.length : Nat) : Int)) (b := 0) rfl rfl ?_)
    refine s_nil ?_
    refine t_norm (hK21 _ _ ?_)
    refine c_cond rfl (fun h22 => ?_) (fun h22 => ?_)
    · -- sm + ((x18.2.length : Nat) : Int) < 0
      exfalso; omega
    · -- not: sm + ((x18.2.length : Nat) : Int) < 0
      refine wp_skip ?_
      refine b_norm ?_
      refine t_norm (hK13 _ _ ?_)
      refine c_region ?_
      refine s_op (o_add (a := (k : Int)) (b := 1) e5_11 rfl (w64 (by omega) (by omega)) ?_)
      refine s_op (o_move (v := (.int .i64 ((k : Int) + 1))) rfl ?_)
      refine s_nil ?_
      refine t_norm ⟨ls.length - (k + 1), _, rfl, ?_, ?_⟩
      · omega
      · exact ⟨(k + 1), (sm + ((x18.2.length : Nat) : Int)), rfl, hH8, (by omega), (by rw [take_succ_of (show ls[k]? = some _ from hx19), List.flatMap_append, List.length_append, hsm]; simp), e5_0, e5_2, rfl, e5_9, e5_10, rfl⟩
  · -- not: (k : Int) < ((ls.length : Nat) : Int)
    refine wp_exit ?_
    refine t_exit (t_exit (x_in (?_)))
    refine t_norm (hK3 _ _ ?_)
    refine wp_seq_k fun K23 hK23 => ?_
    refine c_region ?_
    refine s_op (o_move (v := (.int .i64 sm)) e5_3 ?_)
    refine s_op (o_callf (vs := #[(.slice none 0 0), (.int .i64 sm)]) ca135 rfl (args2 rfl rfl) (pgrow_c (n := sm) hH8.all (by first | omega | (simp only []; omega) | (simp; done) | (simp; omega))) ?_)
    rintro _ w29 ⟨v24, s25, rfl, ho26, hX27⟩
    refine ⟨_, rfl, ?_⟩
    have hH28 : Has E w29 [s25, R] := hX27.of_all1
    refine s_op (o_assign (v := v24) rfl ?_)
    refine s_nil ?_
    refine t_norm (hK23 _ _ ?_)
    refine wp_seq_k fun K30 hK30 => ?_
    refine wp_seq_k fun K31 hK31 => ?_
    refine c_region ?_
    refine s_op (o_move (v := v_ls) e5_0 ?_)
    refine s_op (o_lenS Try.underlying217 rfl h_ls ?_)
    refine s_op (o_move (v := (.int .i64 0)) rfl ?_)
    refine s_nil ?_
    refine t_norm (hK31 _ _ ?_)
    refine wp_block ?_
    let I33 : Nat → (Nat → Value) → World → Prop := fun n__ r__ w__ => ∃ (k2 : Nat) (vo : Value) (so : List Hp) (out : List Plc), n__ = ls.length - k2 ∧ Has E w__ [so, R] ∧ (k2 ≤ ls.length) ∧ (Own 170 3 vo out.length (out.flatMap plC) so) ∧ (out = (ls.take k2).flatMap (fun q_ : Value × List Plc => q_.2)) ∧ r__ 0 = v_ls ∧ r__ 2 = (.slice none 0 0) ∧ r__ 3 = (.int .i64 sm) ∧ r__ 6 = vo ∧ r__ 9 = v_ls ∧ r__ 10 = (.int .i64 ((ls.length : Nat) : Int)) ∧ r__ 11 = (.int .i64 (k : Int)) ∧ r__ 12 = (.bool (decide ((k : Int) < ((ls.length : Nat) : Int)))) ∧ r__ 25 = v_ls ∧ r__ 26 = (.int .i64 ((ls.length : Nat) : Int)) ∧ r__ 27 = (.int .i64 (k2 : Int))
    refine c_loop I33 _ ⟨0, v24, s25, ([] : List Plc), rfl, hH28, Nat.zero_le _, ho26, rfl, e5_0, e5_2, e5_3, rfl, e5_9, e5_10, e5_11, rfl, rfl, rfl, rfl⟩ ?_
    rintro n_ r36 w34 ⟨k2, vo, so, out, rfl, hH35, hk2, hoo, hf, e32_0, e32_2, e32_3, e32_6, e32_9, e32_10, e32_11, e32_12, e32_25, e32_26, e32_27⟩
    have ht_ := flat_take_len (fun q_ : Value × List Plc => q_.2) ls k2
    rw [← hf] at ht_
    have hv_ := h_ls.le
    refine wp_seq_k fun K37 hK37 => ?_
    refine c_region ?_
    refine s_op (o_lss (a := (k2 : Int)) (b := ((ls.length : Nat) : Int)) e32_27 e32_26 ?_)
    refine s_nil ?_
    refine t_norm (hK37 _ _ ?_)
    refine wp_seq_k fun K38 hK38 => ?_
    refine c_cond rfl (fun h39 => ?_) (fun h39 => ?_)
    · -- (k2 : Int) < ((ls.length : Nat) : Int)
      refine wp_skip ?_
      refine t_norm (hK38 _ _ ?_)
      refine wp_seq_k fun K40 hK40 => ?_
      refine wp_block ?_
      refine wp_seq_k fun K41 hK41 => ?_
      refine c_region ?_
      obtain ⟨x45, hx46⟩ : ∃ x_, ls[((k2 : Int)).toNat]? = some x_ := get_some (by omega)
      refine s_op (o_index1 Try.underlying217 ti166 e32_25 h_ls e32_27 (by omega) hx46 fun b42 o43 hc44 => ?_)
      refine s_op (o_load1 (v := (rwV x45)) Try.underlying166 rfl rfl hH35 (seg_sub 1 rfl) hc44 ?_)
      refine s_op (o_assign (v := (rwV x45)) rfl ?_)
      refine s_nil ?_
      refine t_norm (hK41 _ _ ?_)
      refine c_region ?_
      refine s_op (o_move (v := vo) e32_6 ?_)
      refine s_op (o_move (v := (rwV x45)) rfl ?_)
      have hr_ : out.length + x45.2.length ≤ 1000000 := cc_room hf (show ls[k2]? = some _ from hx46) hn
      refine s_op (o_append Try.underlying166 ti170 rfl (by decide) rfl hoo rfl (hq _ (List.mem_of_getElem? hx46)) (hH35.front 0 rfl) (seg_sub 0 rfl) (one_plC _) (by omega) (by omega) fun v47 s48 w50 ho49 hH51 => ?_)
      have ho49 : Own 170 3 v47 (out ++ x45.2).length ((out ++ x45.2).flatMap plC) s48 := ho49.appF
      refine s_op (o_assign (v := v47) rfl ?_)
      refine s_nil ?_
      refine b_norm ?_
      refine t_norm (hK40 _ _ ?_)
      refine c_region ?_
      refine s_op (o_add (a := (k2 : Int)) (b := 1) e32_27 rfl (w64 (by omega) (by omega)) ?_)
      refine s_op (o_move (v := (.int .i64 ((k2 : Int) + 1))) rfl ?_)
      refine s_nil ?_
      refine t_norm ⟨ls.length - (k2 + 1), _, rfl, ?_, ?_⟩
      · omega
      · exact ⟨(k2 + 1), v47, s48, (out ++ x45.2), rfl, hH51, (by omega), (ho49), (by rw [take_succ_of (show ls[k2]? = some _ from hx46), List.flatMap_append, ← hf]; simp), e32_0, e32_2, e32_3, rfl, e32_9, e32_10, e32_11, e32_12, e32_25, e32_26, rfl⟩
    · -- not: (k2 : Int) < ((ls.length : Nat) : Int)
      refine wp_exit ?_
      refine t_exit (t_exit (x_in (?_)))
      refine t_norm (hK30 _ _ ?_)
      refine wp_seq_k fun K52 hK52 => ?_
      refine c_region ?_
      refine s_op (o_move (v := vo) e32_6 ?_)
      refine s_op (o_assign (v := vo) rfl ?_)
      refine s_nil ?_
      refine t_norm (hK52 _ _ ?_)
      refine wp_ret ?_
      refine c_ret1 Try.results96  (v := vo) rfl ?_
      have q53 : (ls.flatMap (fun q_ : Value × List Plc => q_.2)) = out := by (have he_ : k2 = ls.length := by omega); rw [hf, he_, List.take_length]
      exact ⟨_, _, rfl, (by rw [q53]; exact hoo), hH35⟩
end Go.Q
namespace Go.Q
/-- the slice of the first j elements -/
def headV : Value → Nat → Nat → Value
  | .slice p _ c, j, sz => sliced p 0 j c sz
  | v, _, _ => v
theorem sl_head {L : List Hp} {sz n : Nat} {v : Value} {cs : List Value} (hs : Sl L sz v n cs) {j : Nat} (hj : j ≤ n) : Sl L sz (headV v j sz) j (cs.take (j * sz)) := by
  obtain ⟨p, cap, rfl⟩ := hs.form
  obtain ⟨p', cap', e2, hnc, hcm, hl, hp⟩ := hs
  cases e2
  have hle : j * sz ≤ n * sz := Nat.mul_le_mul_right _ hj
  unfold headV sliced
  refine ⟨_, _, rfl, by omega, by omega, ?_, fun h => ?_⟩
  · rw [List.length_take, hl]; omega
  · obtain ⟨b, off, rfl, hc⟩ := hp (by omega)
    refine ⟨b, off, ?_, hc.take⟩
    split <;> simp [add_lit]
theorem flatMap_take {α β : Type} (f : α → List β) (n : Nat) (hf : ∀ x, (f x).length = n) : ∀ (l : List α) (j : Nat), (l.flatMap f).take (j * n) = (l.take j).flatMap f
  | [], j => by simp
  | x :: l, 0 => by simp
  | x :: l, j + 1 => by
    rw [List.flatMap_cons, List.take_succ_cons, List.flatMap_cons, ← flatMap_take f n hf l j, List.take_append, hf, List.take_of_length_le (by rw [hf, Nat.add_mul]; omega), show (j + 1) * n - n = j * n by rw [Nat.add_mul]; omega]
theorem sl_headf {α : Type} {f : α → List Value} {sz : Nat} (hf : ∀ x, (f x).length = sz) {L : List Hp} {v : Value} {l : List α} (hs : Sl L sz v l.length (l.flatMap f)) {j : Nat} (hj : j ≤ l.length) : Sl L sz (headV v j sz) (l.take j).length ((l.take j).flatMap f) := by
  have h := sl_head hs hj
  rw [flatMap_take f sz hf] at h
  rw [List.length_take, Nat.min_eq_left hj]; exact h
section ops
variable {P : Program} {ρ : Operand → Value} {E w : World} {ss : List (List Hp)} {K : Value → World → Prop} {dst : Option Tmp} {T : TypeId} {pos : String} {after : Array Edge} {g : Option (Nat × Bool)}
/-- s[:j] of a row that is read -/
theorem o_slh {x y : Operand} {t e : TypeId} {zz : Value} {v : Value} {sz by_ n : Nat} {cs : List Value} {L : List Hp} {k : IntKind} {j : Int} (ht : P.underlying t = some (.slice e)) (hi : TI P e zz sz by_)
    (hx : ρ x = v) (hs : Sl L sz v n cs) (hy : ρ y = .int k j) (h0 : 0 ≤ j) (h1 : j ≤ n)
    (hK : K (headV v j.toNat sz) w) : OK P ⟨dst, .slice t x none (some y) none, T, pos, after, g⟩ ρ w K := by
  have e1 : P.elem t = e := by simp [Program.elem, ht]
  obtain ⟨p, cap, rfl⟩ := hs.form
  obtain ⟨p', cap', e2, hnc, hcm, hl, hp⟩ := hs
  cases e2
  have hrun : (Instr.sliceAt t (ρ x) ((none : Option Operand).map ρ) ((some y).map ρ) ((none : Option Operand).map ρ)).run P w = .ok (sliced p 0 j.toNat cap sz) w := by
    simp only [hx, hy, Option.map_some, Option.map_none]
    rw [run_sliceAt_slice _ _ _ _ _ _ (by rw [e1]; exact ht), run_slice_any _ _ _ _ _ (by rw [e1]; exact ht), bounds_h h0 (by omega), e1]
    simp only [Result.andThen_ok, hi.size, Int.toNat_natCast]; rfl
  exact OK.val (run_v hrun) hK
end ops
end Go.Q
namespace Go.Q
open Go.Proofs
set_option linter.unusedVariables false
set_option maxRecDepth 100000
attribute [local irreducible] wpList OK Code.wp
set_option maxHeartbeats 4000000 in
theorem edges_c {E w : World} {R : List Hp} {tb : Nat} {v : TabS}  (hH : Has E w [R]) (h_tb : TbRd R tb v) (hkl : ∀ p_ ∈ v.keys, p_.1.length ≤ 1000) (hkn : v.keys.length ≤ 1000) (hsz : szT v.keys) :
    Calls Try.prog 45 #[(.pointer (some ⟨tb, 0, none⟩))] w fun e w' => ∃ (v1' : Value) (s2' : List Hp), e = .returned v1' ∧ (Own 95 2 v1' (edgesS v.keys).length ((edgesS v.keys).flatMap tmC) s2') ∧ Has E w' [s2', R] := by
  have hks_ := names_len v.keys
  obtain ⟨x1, hc3, f2⟩ := h_tb
  refine c_enter (args := [(.pointer (some ⟨tb, 0, none⟩))]) Try.func45 rfl Try.ntmps45 (by simp) ?_
  refine wp_seq_k fun K4 hK4 => ?_
  refine c_region ?_
  refine s_op (o_assign (v := (.slice none 0 0)) rfl ?_)
  refine s_nil ?_
  refine t_norm (hK4 _ _ ?_)
  refine wp_seq_k fun K5 hK5 => ?_
  refine c_region ?_
  refine s_op (o_assign (v := (.slice none 0 0)) rfl ?_)
  refine s_nil ?_
  refine t_norm (hK5 _ _ ?_)
  refine wp_seq_k fun K6 hK6 => ?_
  refine wp_seq_k fun K7 hK7 => ?_
  refine c_region ?_
  refine s_op (o_move (v := (.pointer (some ⟨tb, 0, none⟩))) rfl ?_)
  refine s_op (o_callf (vs := #[(.pointer (some ⟨tb, 0, none⟩))]) ca95 rfl (args1 rfl) (names_c (v := v) hH.all ((TbRd.mk hc3 f2).mono (seg_sub 0 rfl)) (by first | omega | (simp only []; omega) | (simp; done) | (simp; omega)) (by first | omega | (simp only []; omega) | (simp; done) | (simp; omega))) ?_)
  rintro _ w13 ⟨v8, s9, rfl, ho10, hX11⟩
  refine ⟨_, rfl, ?_⟩
  have hH12 : Has E w13 [s9, R] := hX11.of_all1
  refine s_op (o_lenS Try.underlying53 rfl ho10.sl ?_)
  refine s_op (o_move (v := (.int .i64 0)) rfl ?_)
  refine s_nil ?_
  refine t_norm (hK7 _ _ ?_)
  refine wp_block ?_
  let I15 : Nat → (Nat → Value) → World → Prop := fun n__ r__ w__ => ∃ (k : Nat) (va : Value) (sa : List Hp) (oa : List (Int × Int)), n__ = (namesS v.keys).length - k ∧ Has E w__ [sa, s9, R] ∧ (k ≤ (namesS v.keys).length) ∧ (oa.length ≤ k * 1000000) ∧ (Own 95 2 va oa.length (oa.flatMap tmC) sa) ∧ (oa = (((namesS v.keys).take k).flatMap (edgK v.keys))) ∧ r__ 0 = (.pointer (some ⟨tb, 0, none⟩)) ∧ r__ 2 = (.slice none 0 0) ∧ r__ 3 = va ∧ r__ 12 = v8 ∧ r__ 13 = (.int .i64 (((namesS v.keys).length : Nat) : Int)) ∧ r__ 14 = (.int .i64 (k : Int))
  have hH16 : Has E w13 [[], s9, R] := (Has.nil ((hH12.front 1 rfl).front 1 rfl)).first 3 rfl
  refine c_loop I15 _ ⟨0, (.slice none 0 0), [], [], rfl, hH16, Nat.zero_le _, Nat.zero_le _, Own.nil 95 2, rfl, rfl, rfl, rfl, rfl, rfl, rfl⟩ ?_
  rintro n_ r19 w17 ⟨k, va, sa, oa, rfl, hH18, hk, hla, hoa, hfa, e14_0, e14_2, e14_3, e14_12, e14_13, e14_14⟩
  refine wp_seq_k fun K20 hK20 => ?_
  refine c_region ?_
  refine s_op (o_lss (a := (k : Int)) (b := (((namesS v.keys).length : Nat) : Int)) e14_14 e14_13 ?_)
  refine s_nil ?_
  refine t_norm (hK20 _ _ ?_)
  refine wp_seq_k fun K21 hK21 => ?_
  refine c_cond rfl (fun h22 => ?_) (fun h22 => ?_)
  · -- (k : Int) < (((namesS v.keys).length : Nat) : Int)
    refine wp_skip ?_
    refine t_norm (hK21 _ _ ?_)
    refine wp_seq_k fun K23 hK23 => ?_
    refine wp_block ?_
    refine wp_seq_k fun K24 hK24 => ?_
    refine c_region ?_
    obtain ⟨x28, hx29⟩ : ∃ x_, (namesS v.keys)[((k : Int)).toNat]? = some x_ := get_some (by omega)
    refine s_op (o_index1 Try.underlying53 ti9 e14_12 ho10.sl e14_14 (by omega) hx29 fun b25 o26 hc27 => ?_)
    refine s_op (o_load1 (v := (S x28)) Try.underlying9 rfl rfl hH18 (seg_sub 1 rfl) hc27 ?_)
    refine s_op (o_assign (v := (S x28)) rfl ?_)
    refine s_nil ?_
    refine t_norm (hK24 _ _ ?_)
    refine wp_seq_k fun K30 hK30 => ?_
    refine c_region ?_
    refine s_op (o_move (v := (.pointer (some ⟨tb, 0, none⟩))) e14_0 ?_)
    refine s_op (o_nilCheck rfl ?_)
    refine s_op (o_fieldAddr (k := 0) (fun _ => by kernel_rfl) rfl ?_)
    refine s_op (o_load1 (v := (.map (some x1))) Try.underlying162 rfl rfl hH18 (seg_sub 2 rfl) (CellsAt.field (k := 0) (ds := [(.map (some x1))]) hc3 rfl) ?_)
    refine s_op (o_move (v := (S x28)) rfl ?_)
    refine s_op (o_dirRd (k := x28) Try.underlying162 (key_string Try.underlying9) ti165 rfl rfl f2 hH18 (seg_sub 2 rfl) (fun hN31 => ?_) (fun b33 v34 hS32 hr35 => ?_))
    · -- none
      exact (names_get (show (namesS v.keys)[_]? = some x28 from hx29) hN31).elim
    · -- some
      obtain ⟨x36, x37, hc40, f38, f39⟩ := hr35
      have f38_n := f38.le
      have f39_n := f39.le
      refine s_op (o_assign (v := (.pointer (some ⟨b33, 0, none⟩))) rfl ?_)
      refine s_nil ?_
      refine t_norm (hK30 _ _ ?_)
      refine wp_seq_k fun K41 hK41 => ?_
      refine c_region ?_
      refine s_op (o_move (v := (.pointer (some ⟨b33, 0, none⟩))) rfl ?_)
      refine s_op (o_nilCheck rfl ?_)
      refine s_op (o_fieldAddr (k := 1) (fun _ => by kernel_rfl) rfl ?_)
      refine s_op (o_load1 (v := x37) Try.underlying166 rfl rfl hH18 (seg_sub 2 rfl) (CellsAt.field (k := 1) (ds := [x37]) hc40 rfl) ?_)
      refine s_op (o_lenS Try.underlying166 rfl f39 ?_)
      refine s_op (o_move (v := (.int .i64 0)) rfl ?_)
      refine s_nil ?_
      refine t_norm (hK41 _ _ ?_)
      refine wp_block ?_
      let I43 : Nat → (Nat → Value) → World → Prop := fun n__ r__ w__ => ∃ (i : Nat) (vb : Value) (sb : List Hp) (ob : List (Int × Int)), n__ = v34.line.length - i ∧ Has E w__ [sb, s9, R] ∧ (i ≤ v34.line.length) ∧ (Own 95 2 vb ob.length (ob.flatMap tmC) sb) ∧ (ob = oa ++ edS v34.hold [] (v34.line.take i)) ∧ (ob.length ≤ oa.length + 1000000) ∧ r__ 0 = (.pointer (some ⟨tb, 0, none⟩)) ∧ r__ 2 = (.slice none 0 0) ∧ r__ 3 = vb ∧ r__ 5 = (S x28) ∧ r__ 6 = (.pointer (some ⟨b33, 0, none⟩)) ∧ r__ 12 = v8 ∧ r__ 13 = (.int .i64 (((namesS v.keys).length : Nat) : Int)) ∧ r__ 14 = (.int .i64 (k : Int)) ∧ r__ 15 = (.bool (decide ((k : Int) < (((namesS v.keys).length : Nat) : Int)))) ∧ r__ 27 = x37 ∧ r__ 28 = (.int .i64 ((v34.line.length : Nat) : Int)) ∧ r__ 29 = (.int .i64 (i : Int))
      refine c_loop I43 _ ⟨0, va, sa, oa, rfl, hH18, Nat.zero_le _, hoa, (by simp [edS]), (by omega), e14_0, e14_2, e14_3, rfl, rfl, e14_12, e14_13, e14_14, rfl, rfl, rfl, rfl⟩ ?_
      rintro n_ r46 w44 ⟨i, vb, sb, ob, rfl, hH45, hi, hob, hfb, hlb, e42_0, e42_2, e42_3, e42_5, e42_6, e42_12, e42_13, e42_14, e42_15, e42_27, e42_28, e42_29⟩
      refine wp_seq_k fun K47 hK47 => ?_
      refine c_region ?_
      refine s_op (o_lss (a := (i : Int)) (b := ((v34.line.length : Nat) : Int)) e42_29 e42_28 ?_)
      refine s_nil ?_
      refine t_norm (hK47 _ _ ?_)
      refine wp_seq_k fun K48 hK48 => ?_
      refine c_cond rfl (fun h49 => ?_) (fun h49 => ?_)
      · -- (i : Int) < ((v34.line.length : Nat) : Int)
        refine wp_skip ?_
        refine t_norm (hK48 _ _ ?_)
        refine wp_seq_k fun K50 hK50 => ?_
        refine wp_block ?_
        refine wp_seq_k fun K51 hK51 => ?_
        refine c_region ?_
        refine s_op (o_move (v := (.int .i64 (i : Int))) e42_29 ?_)
        obtain ⟨x55, hx56⟩ : ∃ x_, v34.line[((i : Int)).toNat]? = some x_ := get_some (by omega)
        refine s_op (o_indexF plC_len Try.underlying166 ti170 e42_27 f39 rfl e42_29 (by omega) hx56 fun b52 o53 hc54 => ?_)
        refine s_op (o_loadN (cs := [(S x55.key), (.bool x55.wr), (.int .i64 x55.own)]) Try.underlying170 rfl ti170 rfl hH45 (seg_sub 2 rfl) hc54 ?_)
        refine s_op (o_alloc (cs := #[(S ([] : List UInt8)), (.bool false), (.int .i64 0)]) ti170 rfl hH45 fun b57 w58 hH59 => ?_)
        refine s_op (o_assign (v := (.int .i64 (i : Int))) rfl ?_)
        refine s_eff (o_storeN (vs := [(S x55.key), (.bool x55.wr), (.int .i64 x55.own)]) (c' := #[(S x55.key), (.bool x55.wr), (.int .i64 x55.own)]) ti170 rfl rfl rfl rfl (by intro u hu; simp only [List.mem_cons, List.not_mem_nil, or_false] at hu; rcases hu with rfl | rfl | rfl <;> first | rfl) (by simp) (by kernel_rfl) (hH59.front 0 rfl) fun w60 hH61 => ?_)
        refine s_nil ?_
        refine t_norm (hK51 _ _ ?_)
        refine wp_seq_k fun K62 hK62 => ?_
        refine Rest.region mixed (by kernel_rfl) ?_
        have hH63 : Has E { w60 with drawn := w60.drawn + 1 } [[Hp.one b57 (.cells #[(S x55.key), (.bool x55.wr), (.int .i64 x55.own)] 170 (0, 0))], sb, s9, R] := Has0.drew hH61 _
        refine Rest.phaseA (fun w_ => Has E w_ [R]) 0 14 14 rfl (by decide) (by kernel_rfl) ?_
        refine a_op 0 rfl (by kernel_rfl) (fun w_ h_ => o_move (v := (.pointer (some ⟨b33, 0, none⟩))) e42_6 ⟨rfl, rfl⟩) ?_
        refine a_op 1 rfl (by kernel_rfl) (fun w_ h_ => o_nilCheck rfl ⟨rfl, rfl⟩) ?_
        refine a_op 2 rfl (by kernel_rfl) (fun w_ h_ => o_fieldAddr (k := 0) (fun _ => by kernel_rfl) rfl ⟨rfl, rfl⟩) ?_
        refine a_op 3 rfl (by kernel_rfl) (fun w_ h_ => o_load1 (v := x36) Try.underlying166 rfl rfl h_ (seg_sub 0 rfl) (CellsAt.field (k := 0) (ds := [x36]) hc40 rfl) ⟨rfl, rfl⟩) ?_
        refine a_op 4 rfl (by kernel_rfl) (fun w_ h_ => o_move (v := (.pointer (some ⟨b33, 0, none⟩))) e42_6 ⟨rfl, rfl⟩) ?_
        refine a_op 5 rfl (by kernel_rfl) (fun w_ h_ => o_nilCheck rfl ⟨rfl, rfl⟩) ?_
        refine a_op 6 rfl (by kernel_rfl) (fun w_ h_ => o_fieldAddr (k := 1) (fun _ => by kernel_rfl) rfl ⟨rfl, rfl⟩) ?_
        refine a_op 7 rfl (by kernel_rfl) (fun w_ h_ => o_load1 (v := x37) Try.underlying166 rfl rfl h_ (seg_sub 0 rfl) (CellsAt.field (k := 1) (ds := [x37]) hc40 rfl) ⟨rfl, rfl⟩) ?_
        refine a_op 8 rfl (by kernel_rfl) (fun w_ h_ => o_move (v := (.int .i64 (i : Int))) rfl ⟨rfl, rfl⟩) ?_
        refine a_op 13 rfl (by kernel_rfl) (fun w_ h_ => o_move (v := (.int .i64 0)) rfl ⟨rfl, rfl⟩) ?_
        have hH64 : Has E { w60 with drawn := w60.drawn + 1 } [R] := (hH63.front 3 rfl).first 1 rfl
        refine a_w 9 rfl (by kernel_rfl) hH64 (o_slh Try.underlying166 ti170 rfl f39 rfl (by omega) (by omega) ?_)
        have hH65 : Has E { w60 with drawn := w60.drawn + 1 } [R] := (hH63.front 3 rfl).first 1 rfl
        refine a_w 10 rfl (by kernel_rfl) hH65 (o_buildSlice (ps := #[(0, x36), (1, (headV x37 ((i : Int)).toNat 3))]) (cells := #[x36, (headV x37 ((i : Int)).toNat 3)]) Try.underlying217 ti166 (by decide) (parts2 rfl rfl) (fill_one2 f38.one (Sl.one (sl_headf (f := plC) (fun _ => rfl) f39 (show ((i : Int)).toNat ≤ v34.line.length by omega))) rfl) hH63 fun b66 w67 hH68 => ?_)
        have hH69 : Has E w67 [R] := (hH68.front 4 rfl).first 1 rfl
        have hsz_ := hsz.get hS32
        refine a_w 11 rfl (by kernel_rfl) hH69 (o_callf (vs := #[(.slice (some ⟨b66, 0, none⟩) 2 2)]) ca96 rfl (args1 rfl) (pconcat_c (ls := [(x36, v34.hold), ((headV x37 ((i : Int)).toNat 3), v34.line.take ((i : Int)).toNat)]) hH68.all ((sl_lit (f := rwV) (l := [(x36, v34.hold), ((headV x37 ((i : Int)).toNat 3), v34.line.take ((i : Int)).toNat)]) rfl rfl (by simp)).mono (seg_sub 0 rfl)) (fun q_ hq_ => by simp only [List.mem_cons, List.not_mem_nil, or_false] at hq_; rcases hq_ with rfl | rfl; exact (f38.mono (seg_sub 4 rfl)); exact ((sl_headf (f := plC) (fun _ => rfl) f39 (show ((i : Int)).toNat ≤ v34.line.length by omega)).mono (seg_sub 4 rfl))) (by first | omega | (simp only []; omega) | (simp; done) | (simp; omega))) ?_)
        rintro _ w75 ⟨v70, s71, rfl, ho72, hX73⟩
        refine ⟨_, rfl, ?_⟩
        have hH74 : Has E w75 [s71, [Hp.one b66 (.cells #[x36, (headV x37 ((i : Int)).toNat 3)] 166 (0, 0))], [Hp.one b57 (.cells #[(S x55.key), (.bool x55.wr), (.int .i64 x55.own)] 170 (0, 0))], sb, s9, R] := hX73.of_all1
        refine a_op 12 rfl (by kernel_rfl) (fun w_ h_ => o_lenS Try.underlying166 rfl ho72.sl ⟨rfl, rfl⟩) ?_
        have hH76 : Has E w75 [R] := (hH74.front 5 rfl).first 1 rfl
        refine a_done (by kernel_rfl) hH76 ?_
        refine Rest.done (by kernel_rfl) ?_
        refine t_norm (hK62 _ _ ?_)
        refine wp_block ?_
        have hcc_ : ([(x36, v34.hold), ((headV x37 ((i : Int)).toNat 3), v34.line.take ((i : Int)).toNat)].flatMap (fun q_ : Value × List Plc => q_.2)) = v34.hold ++ v34.line.take i := by simp
        have hcl_ : ([(x36, v34.hold), ((headV x37 ((i : Int)).toNat 3), v34.line.take ((i : Int)).toNat)].flatMap (fun q_ : Value × List Plc => q_.2)).length ≤ 1000 := by rw [hcc_]; have h7_ := hsz.get hS32; simp only [List.length_append, List.length_take]; omega
        let I78 : Nat → (Nat → Value) → World → Prop := fun n__ r__ w__ => ∃ (j : Nat) (vc : Value) (sc : List Hp) (oc : List (Int × Int)), n__ = ([(x36, v34.hold), ((headV x37 ((i : Int)).toNat 3), v34.line.take ((i : Int)).toNat)].flatMap (fun q_ : Value × List Plc => q_.2)).length - j ∧ Has E w__ [sc, s71, [Hp.one b66 (.cells #[x36, (headV x37 ((i : Int)).toNat 3)] 166 (0, 0))], [Hp.one b57 (.cells #[(S x55.key), (.bool x55.wr), (.int .i64 x55.own)] 170 (0, 0))], s9, R] ∧ (j ≤ ([(x36, v34.hold), ((headV x37 ((i : Int)).toNat 3), v34.line.take ((i : Int)).toNat)].flatMap (fun q_ : Value × List Plc => q_.2)).length) ∧ (Own 95 2 vc oc.length (oc.flatMap tmC) sc) ∧ (oc = ob ++ (((([(x36, v34.hold), ((headV x37 ((i : Int)).toNat 3), v34.line.take ((i : Int)).toNat)].flatMap (fun q_ : Value × List Plc => q_.2)).take j).filter (clashS x55)).map (fun q => (x55.own, q.own)))) ∧ (oc.length ≤ ob.length + j) ∧ r__ 0 = (.pointer (some ⟨tb, 0, none⟩)) ∧ r__ 2 = (.slice none 0 0) ∧ r__ 3 = vc ∧ r__ 5 = (S x28) ∧ r__ 6 = (.pointer (some ⟨b33, 0, none⟩)) ∧ r__ 7 = (.int .i64 (i : Int)) ∧ r__ 8 = (.pointer (some ⟨b57, 0, none⟩)) ∧ r__ 12 = v8 ∧ r__ 13 = (.int .i64 (((namesS v.keys).length : Nat) : Int)) ∧ r__ 14 = (.int .i64 (k : Int)) ∧ r__ 15 = (.bool (decide ((k : Int) < (((namesS v.keys).length : Nat) : Int)))) ∧ r__ 27 = x37 ∧ r__ 28 = (.int .i64 ((v34.line.length : Nat) : Int)) ∧ r__ 29 = (.int .i64 (i : Int)) ∧ r__ 30 = (.bool (decide ((i : Int) < ((v34.line.length : Nat) : Int)))) ∧ r__ 45 = v70 ∧ r__ 46 = (.int .i64 ((([(x36, v34.hold), ((headV x37 ((i : Int)).toNat 3), v34.line.take ((i : Int)).toNat)].flatMap (fun q_ : Value × List Plc => q_.2)).length : Nat) : Int)) ∧ r__ 47 = (.int .i64 (j : Int))
        have hH79 : Has E w75 [sb, s71, [Hp.one b66 (.cells #[x36, (headV x37 ((i : Int)).toNat 3)] 166 (0, 0))], [Hp.one b57 (.cells #[(S x55.key), (.bool x55.wr), (.int .i64 x55.own)] 170 (0, 0))], s9, R] := Has.pick hH74 [3, 0, 0, 0, 0, 0] (by kernel_rfl)
        refine c_loop I78 _ ⟨0, vb, sb, ob, rfl, hH79, Nat.zero_le _, hob, (by simp), (by omega), e42_0, e42_2, e42_3, e42_5, e42_6, rfl, rfl, e42_12, e42_13, e42_14, e42_15, e42_27, e42_28, e42_29, rfl, rfl, rfl, rfl⟩ ?_
        rintro n_ r82 w80 ⟨j, vc, sc, oc, rfl, hH81, hj, hoc, hfc, hlc, e77_0, e77_2, e77_3, e77_5, e77_6, e77_7, e77_8, e77_12, e77_13, e77_14, e77_15, e77_27, e77_28, e77_29, e77_30, e77_45, e77_46, e77_47⟩
        refine wp_seq_k fun K83 hK83 => ?_
        refine c_region ?_
        refine s_op (o_lss (a := (j : Int)) (b := ((([(x36, v34.hold), ((headV x37 ((i : Int)).toNat 3), v34.line.take ((i : Int)).toNat)].flatMap (fun q_ : Value × List Plc => q_.2)).length : Nat) : Int)) e77_47 e77_46 ?_)
        refine s_nil ?_
        refine t_norm (hK83 _ _ ?_)
        refine wp_seq_k fun K84 hK84 => ?_
        refine c_cond rfl (fun h85 => ?_) (fun h85 => ?_)
        · -- (j : Int) < ((([(x36, v34.hold), ((headV x37 ((i : Int)).toNat 3), v34.line.take ((i : Int)).toNat)].flatMap (fun q_ : Value × List Plc => q_.2)).length : Nat) : Int)
          refine wp_skip ?_
          refine t_norm (hK84 _ _ ?_)
          refine wp_seq_k fun K86 hK86 => ?_
          refine wp_block ?_
          refine wp_seq_k fun K87 hK87 => ?_
          refine c_region ?_
          obtain ⟨x91, hx92⟩ : ∃ x_, ([(x36, v34.hold), ((headV x37 ((i : Int)).toNat 3), v34.line.take ((i : Int)).toNat)].flatMap (fun q_ : Value × List Plc => q_.2))[((j : Int)).toNat]? = some x_ := get_some (by omega)
          refine s_op (o_indexF plC_len Try.underlying166 ti170 e77_45 ho72.sl rfl e77_47 (by omega) hx92 fun b88 o89 hc90 => ?_)
          refine s_op (o_loadN (cs := [(S x91.key), (.bool x91.wr), (.int .i64 x91.own)]) Try.underlying170 rfl ti170 rfl hH81 (seg_sub 1 rfl) hc90 ?_)
          refine s_op (o_alloc (cs := #[(S ([] : List UInt8)), (.bool false), (.int .i64 0)]) ti170 rfl hH81 fun b93 w94 hH95 => ?_)
          refine s_eff (o_storeN (vs := [(S x91.key), (.bool x91.wr), (.int .i64 x91.own)]) (c' := #[(S x91.key), (.bool x91.wr), (.int .i64 x91.own)]) ti170 rfl rfl rfl rfl (by intro u hu; simp only [List.mem_cons, List.not_mem_nil, or_false] at hu; rcases hu with rfl | rfl | rfl <;> first | rfl) (by simp) (by kernel_rfl) (hH95.front 0 rfl) fun w96 hH97 => ?_)
          refine s_nil ?_
          refine t_norm (hK87 _ _ ?_)
          refine wp_seq_k fun K98 hK98 => ?_
          refine c_region ?_
          refine s_op (o_loadN (cs := [(S x55.key), (.bool x55.wr), (.int .i64 x55.own)]) Try.underlying170 rfl ti170 e77_8 hH97 (seg_sub 4 rfl) (CellsAt.one rfl) ?_)
          refine s_op (o_loadN (cs := [(S x91.key), (.bool x91.wr), (.int .i64 x91.own)]) Try.underlying170 rfl ti170 rfl hH97 (seg_sub 0 rfl) (CellsAt.one rfl) ?_)
          refine s_op (o_callf (vs := #[(.agg #[(S x55.key), (.bool x55.wr), (.int .i64 x55.own)]), (.agg #[(S x91.key), (.bool x91.wr), (.int .i64 x91.own)])]) ca97 rfl (args2 rfl rfl) (clash_c (p := x55) (q := x91) hH97.all ) ?_)
          rintro _ w101 ⟨rfl, hX99⟩
          refine ⟨_, rfl, ?_⟩
          have hH100 := hX99.of_all
          refine s_nil ?_
          refine t_norm (hK98 _ _ ?_)
          refine c_condb rfl (fun h102 => ?_) (fun h102 => ?_)
          · -- clashS x55 x91
            refine c_region ?_
            refine s_op (o_move (v := vc) e77_3 ?_)
            refine s_op (o_fieldAddr (k := 2) (fun _ => by kernel_rfl) e77_8 ?_)
            refine s_op (o_load1 (v := (.int .i64 x55.own)) Try.underlying3 rfl rfl hH100 (seg_sub 4 rfl) (CellsAt.one rfl) ?_)
            refine s_op (o_fieldAddr (k := 2) (fun _ => by kernel_rfl) rfl ?_)
            refine s_op (o_load1 (v := (.int .i64 x91.own)) Try.underlying3 rfl rfl hH100 (seg_sub 0 rfl) (CellsAt.one rfl) ?_)
            refine s_op (o_sight (v := (.agg #[(.int .i64 x55.own), (.int .i64 x91.own)])) (fun _ => by kernel_rfl) ?_)
            refine s_op (o_buildSlice (ps := #[(0, (.agg #[(.int .i64 x55.own), (.int .i64 x91.own)]))]) (cells := #[(.int .i64 x55.own), (.int .i64 x91.own)]) Try.underlying82 ti95 (by decide) (parts1 rfl) (by kernel_rfl) hH100 fun b103 w104 hH105 => ?_)
            refine s_op (o_append Try.underlying82 ti95 rfl (by decide) rfl hoc rfl (sl_litF (f := tmC) (l := [(x55.own, x91.own)]) tmC_len rfl rfl (by simp)) (hH105.front 2 rfl) (seg_sub 0 rfl) (one_tm _) (by simp; omega) (by simp; omega) fun v106 s107 w109 ho108 hH110 => ?_)
            have ho108 : Own 95 2 v106 (oc ++ [(x55.own, x91.own)]).length ((oc ++ [(x55.own, x91.own)]).flatMap tmC) s107 := ho108.appF
            refine s_op (o_assign (v := v106) rfl ?_)
            refine s_nil ?_
            refine b_norm ?_
            refine t_norm (hK86 _ _ ?_)
            refine c_region ?_
            refine s_op (o_add (a := (j : Int)) (b := 1) e77_47 rfl (w64 (by omega) (by omega)) ?_)
            refine s_op (o_move (v := (.int .i64 ((j : Int) + 1))) rfl ?_)
            refine s_nil ?_
            have hH111 : Has E w109 [s107, s71, [Hp.one b66 (.cells #[x36, (headV x37 ((i : Int)).toNat 3)] 166 (0, 0))], [Hp.one b57 (.cells #[(S x55.key), (.bool x55.wr), (.int .i64 x55.own)] 170 (0, 0))], s9, R] := Has.pick hH110 [0, 2, 2, 2, 2, 2] (by kernel_rfl)
            refine t_norm ⟨([(x36, v34.hold), ((headV x37 ((i : Int)).toNat 3), v34.line.take ((i : Int)).toNat)].flatMap (fun q_ : Value × List Plc => q_.2)).length - (j + 1), _, rfl, ?_, ?_⟩
            · omega
            · exact ⟨(j + 1), v106, s107, (oc ++ [(x55.own, x91.own)]), rfl, hH111, (by omega), (ho108), (by rw [fil_step (show ([(x36, v34.hold), ((headV x37 ((i : Int)).toNat 3), v34.line.take ((i : Int)).toNat)].flatMap (fun q_ : Value × List Plc => q_.2))[j]? = some _ from hx92) h102, ← List.append_assoc, ← hfc]), (by first | omega | (simp only [List.length_append, List.length_cons, List.length_nil]; omega)), e77_0, e77_2, rfl, e77_5, e77_6, e77_7, e77_8, e77_12, e77_13, e77_14, e77_15, e77_27, e77_28, e77_29, e77_30, e77_45, e77_46, rfl⟩
          · -- not: clashS x55 x91
            refine wp_skip ?_
            refine b_norm ?_
            refine t_norm (hK86 _ _ ?_)
            refine c_region ?_
            refine s_op (o_add (a := (j : Int)) (b := 1) e77_47 rfl (w64 (by omega) (by omega)) ?_)
            refine s_op (o_move (v := (.int .i64 ((j : Int) + 1))) rfl ?_)
            refine s_nil ?_
            have hH112 : Has E w101 [sc, s71, [Hp.one b66 (.cells #[x36, (headV x37 ((i : Int)).toNat 3)] 166 (0, 0))], [Hp.one b57 (.cells #[(S x55.key), (.bool x55.wr), (.int .i64 x55.own)] 170 (0, 0))], s9, R] := Has.pick hH100 [1, 1, 1, 1, 1, 1] (by kernel_rfl)
            refine t_norm ⟨([(x36, v34.hold), ((headV x37 ((i : Int)).toNat 3), v34.line.take ((i : Int)).toNat)].flatMap (fun q_ : Value × List Plc => q_.2)).length - (j + 1), _, rfl, ?_, ?_⟩
            · omega
            · exact ⟨(j + 1), vc, sc, oc, rfl, hH112, (by omega), (hoc), (by rw [fil_skip (show ([(x36, v34.hold), ((headV x37 ((i : Int)).toNat 3), v34.line.take ((i : Int)).toNat)].flatMap (fun q_ : Value × List Plc => q_.2))[j]? = some _ from hx92) h102, ← hfc]), (by first | omega | (simp only [List.length_append, List.length_cons, List.length_nil]; omega)), e77_0, e77_2, e77_3, e77_5, e77_6, e77_7, e77_8, e77_12, e77_13, e77_14, e77_15, e77_27, e77_28, e77_29, e77_30, e77_45, e77_46, rfl⟩
        · -- not: (j : Int) < ((([(x36, v34.hold), ((headV x37 ((i : Int)).toNat 3), v34.line.take ((i : Int)).toNat)].flatMap (fun q_ : Value × List Plc => q_.2)).length : Nat) : Int)
          refine wp_exit ?_
          refine t_exit (t_exit (x_in (?_)))
          refine b_norm ?_
          refine t_norm (hK50 _ _ ?_)
          refine c_region ?_
          refine s_op (o_add (a := (i : Int)) (b := 1) e77_29 rfl (w64 (by omega) (by omega)) ?_)
          refine s_op (o_move (v := (.int .i64 ((i : Int) + 1))) rfl ?_)
          refine s_nil ?_
          have hH113 : Has E w80 [sc, s9, R] := (((hH81.front 5 rfl).front 5 rfl).front 2 rfl).first 3 rfl
          refine t_norm ⟨v34.line.length - (i + 1), _, rfl, ?_, ?_⟩
          · omega
          have hj_ : j = ([(x36, v34.hold), ((headV x37 ((i : Int)).toNat 3), v34.line.take ((i : Int)).toNat)].flatMap (fun q_ : Value × List Plc => q_.2)).length := by omega
          · exact ⟨(i + 1), vc, sc, oc, rfl, hH113, (by omega), (hoc), (by rw [edS_step (show v34.line[i]? = some _ from hx56), hfc, hj_, List.take_length, hcc_, hfb, List.append_assoc]), (by have h8_ := edgK_len hsz hS32 (i + 1); rw [edS_step (show v34.line[i]? = some _ from hx56)] at h8_; have h9_ := congrArg List.length hfb; rw [hfc, hj_, List.take_length, hcc_]; simp only [List.length_append] at *; omega), e77_0, e77_2, e77_3, e77_5, e77_6, e77_12, e77_13, e77_14, e77_15, e77_27, e77_28, rfl⟩
      · -- not: (i : Int) < ((v34.line.length : Nat) : Int)
        refine wp_exit ?_
        refine t_exit (t_exit (x_in (?_)))
        refine b_norm ?_
        refine t_norm (hK23 _ _ ?_)
        refine c_region ?_
        refine s_op (o_add (a := (k : Int)) (b := 1) e42_14 rfl (w64 (by omega) (by omega)) ?_)
        refine s_op (o_move (v := (.int .i64 ((k : Int) + 1))) rfl ?_)
        refine s_nil ?_
        refine t_norm ⟨(namesS v.keys).length - (k + 1), _, rfl, ?_, ?_⟩
        · omega
        have hi_ : i = v34.line.length := by omega
        have hob_ : ob = oa ++ edS v34.hold [] v34.line := by rw [hfb, hi_, List.take_length]
        · exact ⟨(k + 1), vb, sb, ob, rfl, hH45, (by omega), (by have h8_ := edgK_len hsz hS32 v34.line.length; rw [List.take_length] at h8_; rw [hob_, List.length_append]; omega), (hob), (by rw [hob_, edges_step (show (namesS v.keys)[k]? = some _ from hx29) hS32, ← hfa]), e42_0, e42_2, e42_3, e42_12, e42_13, rfl⟩
  · -- not: (k : Int) < (((namesS v.keys).length : Nat) : Int)
    refine wp_exit ?_
    refine t_exit (t_exit (x_in (?_)))
    refine t_norm (hK6 _ _ ?_)
    refine wp_seq_k fun K114 hK114 => ?_
    refine c_region ?_
    refine s_op (o_move (v := va) e14_3 ?_)
    refine s_op (o_assign (v := va) rfl ?_)
    refine s_nil ?_
    refine t_norm (hK114 _ _ ?_)
    refine wp_ret ?_
    refine c_ret1 Try.results45  (v := va) rfl ?_
    have q115 : (edgesS v.keys) = oa := by (have he_ : k = (namesS v.keys).length := by omega); rw [edges_eq, hfa, he_, List.take_length]
    have hH116 : Has E w17 [sa, R] := ((hH18.front 2 rfl).front 1 rfl).first 2 rfl
    exact ⟨_, _, rfl, (by rw [q115]; exact hoa), hH116⟩
end Go.Q
namespace Go.Q
structure LkB (t : Tab) (n : Nat) : Prop where
  len : t.length ≤ n
  ent : ∀ p ∈ t, p.1.length ≤ 100 ∧ p.2.hold.length + p.2.line.length ≤ n
theorem LkB.nil : LkB [] 0 := ⟨by simp, by simp⟩
theorem LkB.mono {t : Tab} {n m : Nat} (h : LkB t n) (hm : n ≤ m) : LkB t m := ⟨Nat.le_trans h.len hm, fun p hp => ⟨(h.ent p hp).1, Nat.le_trans (h.ent p hp).2 hm⟩⟩
theorem LkB.hkl {t : Tab} {n : Nat} (h : LkB t n) : ∀ p_ ∈ t, p_.1.length ≤ 1000 := fun p hp => Nat.le_trans (h.ent p hp).1 (by decide)
theorem LkB.hkn {t : Tab} {n : Nat} (h : LkB t n) (hn : n ≤ 1000) : t.length ≤ 1000 := Nat.le_trans h.len hn
theorem LkB.sz {t : Tab} {n : Nat} (h : LkB t n) (hn : n ≤ 1000) : szT t := fun p hp => Nat.le_trans (h.ent p hp).2 hn
theorem insAt_len {α : Type} (l : List α) (i : Nat) (p : α) : (insAt l i p).length = l.length + 1 := by
  unfold insAt; simp only [List.length_append, List.length_take, List.length_drop, List.length_singleton]; omega
theorem waitS_len (h l : List Plc) (p : Plc) : (waitS h l p).length = l.length + 1 := by
  unfold waitS; split
  · simp
  · split
    · simp
    · exact insAt_len _ _ _
theorem askE_len (e : Ent) (p : Plc) : (askE e p).1.hold.length + (askE e p).1.line.length ≤ e.hold.length + e.line.length + 1 := by
  unfold askE; split
  · show e.hold.length + e.line.length ≤ _; omega
  · split
    · have := holdS_len e.hold p; simp only; omega
    · have := waitS_len e.hold e.line p; simp only; omega
theorem entOf_len {t : Tab} {n : Nat} (h : LkB t n) (k : Bs) : (entOf t k).hold.length + (entOf t k).line.length ≤ n := by
  cases hg : getB t k with
  | none => rw [ent_none hg]; simp
  | some e => rw [ent_some hg]; exact (h.ent _ (getB_memp hg)).2
theorem LkB.ask {t : Tab} {n : Nat} (h : LkB t n) {o : Int} {k : Bs} {wr : Bool} (hk : k.length ≤ 100) : LkB (askS t o k wr).1 (n + 1) := by
  unfold askS
  split
  · exact h.mono (by omega)
  · split
    · exact h.mono (by omega)
    · refine ⟨?_, fun p hp => ?_⟩
      · have := (putB_len k (askE (entOf t k) ⟨k, wr, o⟩).1 t).1; have := h.len; simp only; omega
      · rcases mem_putB hp with g | g
        · have := h.ent p g; exact ⟨this.1, by omega⟩
        · have h1 := askE_len (entOf t k) ⟨k, wr, o⟩
          have h2 := entOf_len h k
          rw [g]; exact ⟨hk, by simp only; omega⟩
theorem delB_len {κ β : Type} [DecidableEq κ] (k : κ) (l : List (κ × β)) : (delB l k).length ≤ l.length := (delB_sub k l).length_le
theorem leaveF_ind {all : Bool} {ow : List Int} (Q : Tab → Prop) (hs : ∀ t k e, Q t → getB t k = some e → Q (setE t k ⟨(leftE all ow e).2.1, (leftE all ow e).2.2⟩)) :
    ∀ (ks : List Bs) (t : Tab), Q t → ks.Nodup → (t.map (·.1)).Nodup → (∀ y ∈ ks, (getB t y).isSome = true) → Q (leaveF all ow t ks).1
  | [], t, h, _, _, _ => h
  | k :: ks, t, h, hn, hd, hi => by
    obtain ⟨e, he⟩ := Option.isSome_iff_exists.1 (hi k (List.mem_cons_self ..))
    have hn' := List.nodup_cons.1 hn
    rw [leaveF, ent_some he]
    have hks : ∀ y ∈ ks, (getB (setE t k ⟨(leftE all ow e).2.1, (leftE all ow e).2.2⟩) y).isSome = true := fun y hy =>
      leave_keep (y := y) (x := k) (b := (leftE all ow e).2.1 = []) (fun g => hn'.1 (by rw [← g]; exact hy)) (hi y (List.mem_cons_of_mem _ hy)) hd (by unfold setE; rfl)
    refine leaveF_ind Q hs ks _ (hs t k e h he) hn'.2 ?_ hks
    unfold setE
    have hp : ((putB t k (⟨(leftE all ow e).2.1, (leftE all ow e).2.2⟩ : Ent)).map (·.1)).Nodup := by
      rw [putB_keys, if_pos (getB_mem.1 (by rw [he]; rfl))]; exact hd
    split
    · exact hp.sublist ((delB_sub k _).map _)
    · exact hp
theorem leave_ind {all : Bool} {ow : List Int} {t : Tab} (Q : Tab → Prop) (hs : ∀ t k e, Q t → getB t k = some e → Q (setE t k ⟨(leftE all ow e).2.1, (leftE all ow e).2.2⟩)) (h : Q t) (hd : (t.map (·.1)).Nodup) : Q (leaveS all ow t).1 :=
  leaveF_ind Q hs _ t h (names_nodup hd) hd fun y hy => getB_mem.2 (names_mem.1 hy)
theorem LkB.leave {t : Tab} {n : Nat} (h : LkB t n) (hd : (t.map (·.1)).Nodup) {all : Bool} {ow : List Int} : LkB (leaveS all ow t).1 n := by
  refine leave_ind (fun t => LkB t n) (fun t k e h he => ?_) h hd
  have h1 := (leftE_len all ow e).1
  have h2 : k.length ≤ 100 ∧ e.hold.length + e.line.length ≤ n := h.ent _ (getB_memp he)
  have h3 : LkB (putB t k (⟨(leftE all ow e).2.1, (leftE all ow e).2.2⟩ : Ent)) n := ⟨by rw [putB_same he]; exact h.len, fun p hp => by
    rcases mem_putB hp with g | g
    · exact h.ent p g
    · rw [g]; exact ⟨h2.1, by simp only; omega⟩⟩
  unfold setE; split
  · exact ⟨Nat.le_trans (delB_len _ _) h3.len, fun p hp => h3.ent p (mem_delB hp)⟩
  · exact h3
theorem ask_nodup {t : Tab} (h : (t.map (·.1)).Nodup) {o : Int} {k : Bs} {wr : Bool} : ((askS t o k wr).1.map (·.1)).Nodup := by
  unfold askS; split
  · exact h
  · split
    · exact h
    · simp only; rw [putB_keys]; split
      · exact h
      · rename_i g; rw [List.nodup_append]; exact ⟨h, by simp, fun a ha b hb e => g (by rw [List.mem_singleton] at hb; rw [← hb, ← e]; exact ha)⟩
theorem set_nodup {t : Tab} (h : (t.map (·.1)).Nodup) {k : Bs} {e e' : Ent} (hg : getB t k = some e) : ((setE t k e').map (·.1)).Nodup := by
  have hp : ((putB t k e').map (·.1)).Nodup := by rw [putB_keys, if_pos (getB_mem.1 (by rw [hg]; rfl))]; exact h
  unfold setE; split
  · exact hp.sublist ((delB_sub k _).map _)
  · exact hp
theorem leave_nodup {t : Tab} (h : (t.map (·.1)).Nodup) {all : Bool} {ow : List Int} : ((leaveS all ow t).1.map (·.1)).Nodup :=
  leave_ind (fun t => (t.map (·.1)).Nodup) (fun _ _ _ h hg => set_nodup h hg) h h
/-! nobody waits who may have it -/
def Stopped (e : Ent) : Prop := e.hold ≠ [] ∧ (e.line = [] ∨ ∃ x, e.line[0]? = some x ∧ freeS e.hold x = false)
theorem grant_stops : ∀ (l h : List Plc), (grantS h l).2.2 = [] ∨ ∃ x, (grantS h l).2.2[0]? = some x ∧ freeS (grantS h l).2.1 x = false
  | [], h => .inl rfl
  | p :: t, h => by
    rw [grantS]
    split
    · exact grant_stops t (holdS h p)
    · rename_i g; exact .inr ⟨p, rfl, by simpa using g⟩
theorem leftE_stopped {all : Bool} {ow : List Int} {e : Ent} (h : (leftE all ow e).2.1 ≠ []) : Stopped ⟨(leftE all ow e).2.1, (leftE all ow e).2.2⟩ := ⟨h, grant_stops _ _⟩
def LkS (t : Tab) : Prop := ∀ p ∈ t, Stopped p.2
theorem LkS.leave {t : Tab} (h : LkS t) (hd : (t.map (·.1)).Nodup) {all : Bool} {ow : List Int} : LkS (leaveS all ow t).1 := by
  refine (leave_ind (fun t => LkS t ∧ (t.map (·.1)).Nodup) (fun t k e h he => ⟨?_, set_nodup h.2 he⟩) ⟨h, hd⟩ hd).1
  intro p hp
  by_cases hz : (leftE all ow e).2.1 = []
  · unfold setE at hp
    rw [if_pos hz] at hp
    have hp2 := mem_delB hp
    rcases mem_putB hp2 with g | g
    · exact h.1 p g
    · exfalso
      have hnd : ((putB t k (⟨(leftE all ow e).2.1, (leftE all ow e).2.2⟩ : Ent)).map (·.1)).Nodup := by rw [putB_keys, if_pos (getB_mem.1 (by rw [he]; rfl))]; exact h.2
      have h3 : (getB (delB (putB t k (⟨(leftE all ow e).2.1, (leftE all ow e).2.2⟩ : Ent)) k) k) = none := by rw [getB_del _ _ _ hnd, if_pos rfl]
      have h4 := getB_mem.2 (List.mem_map.2 ⟨p, hp, rfl⟩)
      rw [show p.1 = k by rw [g], h3] at h4; cases h4
  · unfold setE at hp
    rw [if_neg hz] at hp
    rcases mem_putB hp with g | g
    · exact h.1 p g
    · rw [g]; exact leftE_stopped hz
theorem free_nil (p : Plc) : freeS [] p = true := rfl
theorem clash_comm (p q : Plc) : clashS p q = clashS q p := by unfold clashS; rw [Bool.or_comm, decide_eq_decide.2 ⟨Ne.symm, Ne.symm⟩]
theorem waitS_head {h l : List Plc} {p : Plc} (hs : l = [] ∨ ∃ x, l[0]? = some x ∧ freeS h x = false) (hp : freeS h p = false ∨ (atS h p.own < 0 ∧ l ≠ [])) : ∃ x, (waitS h l p)[0]? = some x ∧ freeS h x = false := by
  rcases hs with rfl | ⟨x, hx, hf⟩
  · have hp := hp.resolve_right (fun g => g.2 rfl)
    refine ⟨p, ?_, hp⟩
    unfold waitS; split
    · rfl
    · split
      · rfl
      · simp [insAt]
  · obtain ⟨y, l', rfl⟩ : ∃ y l', l = y :: l' := by cases l with
      | nil => simp at hx
      | cons a b => exact ⟨a, b, rfl⟩
    obtain rfl : y = x := by simpa using hx
    unfold waitS
    by_cases g : atS h p.own < 0
    · rw [if_pos g]; exact ⟨y, by simp, hf⟩
    · rw [if_neg g]
      have hp := hp.resolve_right (fun g' => g g'.1)
      split
      · exact ⟨y, by simp, hf⟩
      · unfold insAt
        generalize (lineS h (y :: l')).toNat = i
        cases i with
        | zero => exact ⟨p, by simp, hp⟩
        | succ i => exact ⟨y, by simp, hf⟩
theorem set_ne {α : Type} {l : List α} {i : Nat} {a : α} (h : l ≠ []) : l.set i a ≠ [] := by intro e; apply h; have := congrArg List.length e; rw [List.length_set] at this; exact List.eq_nil_of_length_eq_zero (by simpa using this)
theorem holdS_ne (h : List Plc) (p : Plc) : holdS h p ≠ [] := by
  unfold holdS; split
  · rename_i g
    have := atS_lt h p.own
    exact set_ne (fun e => by rw [e, at_nil] at g; omega)
  · simp
/-- who is held back is held back still, where one more is held, or for writing -/
theorem hold_stop {h : List Plc} {p x : Plc} (hx : freeS h x = false) (hp : 0 ≤ atS h p.own → ∀ q, h[(atS h p.own).toNat]? = some q → (q.wr = true → p.wr = true) ∧ q.own = p.own) : freeS (holdS h p) x = false := by
  unfold freeS at *
  simp only [Bool.not_eq_false', List.any_eq_true] at *
  obtain ⟨q, hq, hc⟩ := hx
  unfold holdS
  split
  · rename_i g
    have hlt := (atS_lt h p.own).2
    by_cases e : h[(atS h p.own).toNat]? = some q
    · obtain ⟨h1, h2⟩ := hp g q e
      refine ⟨p, List.mem_iff_getElem?.2 ⟨(atS h p.own).toNat, by rw [List.getElem?_set_self (by omega)]⟩, ?_⟩
      unfold clashS at *
      simp only [Bool.and_eq_true, decide_eq_true_eq, Bool.or_eq_true] at *
      exact ⟨by rw [← h2]; exact hc.1, hc.2.imp id h1⟩
    · obtain ⟨j, hj⟩ := List.mem_iff_getElem?.1 hq
      refine ⟨q, List.mem_iff_getElem?.2 ⟨j, ?_⟩, hc⟩
      rw [List.getElem?_set_ne (fun e' => e (by rw [e']; exact hj))]; exact hj
  · exact ⟨q, List.mem_append_left _ hq, hc⟩
theorem at_own {h : List Plc} {o : Int} {q : Plc} (h0 : 0 ≤ atS h o) (hq : h[(atS h o).toNat]? = some q) : q.own = o := by
  have := at_pos h0 hq
  have := List.find?_some this
  simpa [ownIs] using this
theorem LkS.ask {t : Tab} (h : LkS t) {o : Int} {k : Bs} {wr : Bool} : LkS (askS t o k wr).1 := by
  unfold askS
  split
  · exact h
  · split
    · exact h
    · intro p hp
      rcases mem_putB hp with g | g
      · exact h p g
      · rw [g]
        show Stopped (askE (entOf t k) ⟨k, wr, o⟩).1
        have hst : (entOf t k) = ⟨[], []⟩ ∨ Stopped (entOf t k) := by
          cases hg : getB t k with
          | none => exact .inl (ent_none hg)
          | some e => rw [ent_some hg]; exact .inr (h _ (getB_memp hg))
        unfold askE
        split
        · rename_i g1
          rcases hst with e | e
          · rw [e] at g1; exact absurd g1.1 (by rw [at_nil]; decide)
          · exact e
        · rename_i g1
          split
          · rename_i g2
            refine ⟨holdS_ne _ _, ?_⟩
            rcases hst with e | ⟨e1, e2⟩
            · rw [e]; exact .inl rfl
            · rcases e2 with e2 | ⟨x, hx, hf⟩
              · exact .inl e2
              · refine .inr ⟨x, hx, hold_stop hf fun h0 q hq => ⟨fun hw => ?_, at_own h0 hq⟩⟩
                cases wr with
                | true => rfl
                | false => exact absurd ⟨h0, .inr rfl⟩ g1
          · rename_i g2
            rcases hst with e | ⟨e1, e2⟩
            · rw [e] at g2; exact absurd ⟨free_nil _, .inr rfl⟩ g2
            · refine ⟨e1, .inr (waitS_head e2 ?_)⟩
              cases hf : freeS (entOf t k).hold ⟨k, wr, o⟩ with
              | false => exact .inl rfl
              | true =>
                refine .inr ⟨?_, fun e => g2 ⟨hf, .inr e⟩⟩
                rcases Int.lt_or_le (atS (entOf t k).hold o) 0 with g | g
                · exact g
                · exact absurd ⟨hf, .inl g⟩ g2
/-! who asks, must wait, and quits -/
theorem putB_self {κ β : Type} [DecidableEq κ] {k : κ} {e : β} : ∀ {t : List (κ × β)}, getB t k = some e → putB t k e = t
  | [], h => by simp [getB] at h
  | (a, x) :: t, h => by
    rw [getB] at h; rw [putB]; split
    · rename_i g; rw [if_pos g] at h; cases h; rw [g]
    · rename_i g; rw [if_neg g] at h; rw [putB_self h]
theorem fil_none {l : List Plc} {o : Int} (h : l.find? (ownIs o) = none) : l.filter (fun p => !goneS [o] p) = l := by
  rw [List.find?_eq_none] at h
  exact List.filter_eq_self.2 fun a ha => by have := h a ha; simpa [goneS, ownIs] using this
theorem fil_waitS {h l : List Plc} {p : Plc} (hn : l.find? (ownIs p.own) = none) : (waitS h l p).filter (fun q => !goneS [p.own] q) = l := by
  have hg : goneS [p.own] p = true := by simp [goneS]
  have h1 := fil_none hn
  unfold waitS insAt
  split
  · rw [List.filter_append, h1]; simp [hg]
  · split
    · rw [List.filter_append, h1]; simp [hg]
    · rw [List.filter_append, List.filter_append]
      simp only [List.filter_cons, hg, Bool.not_true, Bool.false_eq_true, if_false, List.filter_nil, List.append_nil]
      rw [← List.filter_append, List.take_append_drop, h1]
theorem waits_find {t : Tab} {o : Int} (h : waitsS t o = none) {y : Bs} : (entOf t y).line.find? (ownIs o) = none := by
  unfold waitsS at h
  rw [List.findSome?_eq_none_iff] at h
  by_cases hy : y ∈ namesS t
  · exact h y hy
  · have : getB t y = none := getB_none (fun g => hy (names_mem.2 g))
    rw [ent_none this]; rfl
theorem quit_same {t : Tab} {o : Int} (hs : LkS t) (hw : waitsS t o = none) : ∀ ks : List Bs, (∀ y ∈ ks, (getB t y).isSome = true) → leaveF false [o] t ks = (t, [])
  | [], _ => rfl
  | k :: ks, hi => by
    obtain ⟨e, he⟩ := Option.isSome_iff_exists.1 (hi k (List.mem_cons_self ..))
    have hst := hs _ (getB_memp he)
    have hl : leftE false [o] e = ([], e.hold, e.line) := by
      unfold leftE
      have := waits_find hw (y := k)
      rw [ent_some he] at this
      rw [fil_none this]; exact grant_stop hst.2
    rw [leaveF, ent_some he, hl]
    have h2 : setE t k ⟨e.hold, e.line⟩ = t := by
      unfold setE; rw [if_neg hst.1]; exact putB_self he
    simp only [h2, quit_same hs hw ks fun y hy => hi y (List.mem_cons_of_mem _ hy)]; rfl
theorem quit_back {t : Tab} {o : Int} {k : Bs} {e : Ent} {p : Plc} (hs : LkS t) (hw : waitsS t o = none) (he : getB t k = some e) (hp : p.own = o) : ∀ ks : List Bs, (∀ y ∈ ks, (getB t y).isSome = true) → ks.Nodup →
    leaveF false [o] (putB t k ⟨e.hold, waitS e.hold e.line p⟩) ks = (if k ∈ ks then t else putB t k ⟨e.hold, waitS e.hold e.line p⟩, [])
  | [], _, _ => by simp [leaveF]
  | y :: ks, hi, hn => by
    have hn' := List.nodup_cons.1 hn
    by_cases hy : y = k
    · subst hy
      have hst := hs _ (getB_memp he)
      have h0 := waits_find hw (y := y)
      rw [ent_some he] at h0
      have hl : leftE false [o] ⟨e.hold, waitS e.hold e.line p⟩ = ([], e.hold, e.line) := by
        unfold leftE
        simp only [Bool.false_eq_true, if_false]
        subst hp
        rw [fil_waitS h0]; exact grant_stop hst.2
      have hg : getB (putB t y (⟨e.hold, waitS e.hold e.line p⟩ : Ent)) y = some ⟨e.hold, waitS e.hold e.line p⟩ := by rw [getB_put, if_pos rfl]
      rw [leaveF, ent_some hg, hl]
      have h2 : setE (putB t y (⟨e.hold, waitS e.hold e.line p⟩ : Ent)) y ⟨e.hold, e.line⟩ = t := by
        unfold setE; rw [if_neg hst.1, putB_putB]; exact putB_self he
      simp only [h2, quit_same hs hw ks fun z hz => hi z (List.mem_cons_of_mem _ hz)]
      simp
    · obtain ⟨f, hf⟩ := Option.isSome_iff_exists.1 (hi y (List.mem_cons_self ..))
      have hst := hs _ (getB_memp hf)
      have h0 := waits_find hw (y := y)
      rw [ent_some hf] at h0
      have hl : leftE false [o] f = ([], f.hold, f.line) := by
        unfold leftE; rw [fil_none h0]; exact grant_stop hst.2
      have hg : getB (putB t k (⟨e.hold, waitS e.hold e.line p⟩ : Ent)) y = some f := by rw [getB_put, if_neg hy]; exact hf
      rw [leaveF, ent_some hg, hl]
      have h2 : setE (putB t k (⟨e.hold, waitS e.hold e.line p⟩ : Ent)) y ⟨f.hold, f.line⟩ = putB t k ⟨e.hold, waitS e.hold e.line p⟩ := by
        unfold setE; rw [if_neg hst.1]; exact putB_self hg
      simp only [h2, quit_back hs hw he hp ks (fun z hz => hi z (List.mem_cons_of_mem _ hz)) hn'.2]
      have : (k ∈ y :: ks) ↔ k ∈ ks := by rw [List.mem_cons]; exact ⟨fun g => g.resolve_left (fun e => hy e.symm), .inr⟩
      simp only [this, List.nil_append]
theorem ask_busy {t : Tab} {o : Int} {k : Bs} {wr : Bool} (h : (askS t o k wr).2 = 10) : waitsS t o = none ∧ ∃ e, getB t k = some e ∧ (askS t o k wr).1 = putB t k ⟨e.hold, waitS e.hold e.line ⟨k, wr, o⟩⟩ := by
  unfold askS at h ⊢
  split at h
  · exact absurd (show (1 : Int) = 10 from h) (by decide)
  · rename_i h0
    rw [if_neg h0]
    split at h
    · exact absurd (show (12 : Int) = 10 from h) (by decide)
    · rename_i hw
      rw [if_neg hw]
      refine ⟨by simpa using hw, ?_⟩
      simp only at h ⊢
      cases hg : getB t k with
      | none =>
        rw [ent_none hg] at h
        unfold askE at h
        rw [if_neg (fun g => absurd g.1 (by rw [at_nil]; decide)), if_pos ⟨free_nil _, .inr rfl⟩] at h
        exact absurd (show (0 : Int) = 10 from h) (by decide)
      | some e =>
        refine ⟨e, rfl, ?_⟩
        rw [ent_some hg] at h ⊢
        unfold askE at h ⊢
        split at h
        · exact absurd (show (0 : Int) = 10 from h) (by decide)
        · rename_i g1
          split at h
          · exact absurd (show (0 : Int) = 10 from h) (by decide)
          · rename_i g2
            rw [if_neg g1, if_neg g2]
theorem quits {t : Tab} {o : Int} {k : Bs} {wr : Bool} (hs : LkS t) (hd : (t.map (·.1)).Nodup) (h : (askS t o k wr).2 = 10) : leaveS false [o] (askS t o k wr).1 = (t, []) ∧ (linS (askS t o k wr).1 k).length = (linS t k).length + 1 := by
  obtain ⟨hw, e, he, ht⟩ := ask_busy h
  rw [ht]
  have hk : namesS (putB t k (⟨e.hold, waitS e.hold e.line ⟨k, wr, o⟩⟩ : Ent)) = namesS t := by
    unfold namesS; rw [putB_keys, if_pos (getB_mem.1 (by rw [he]; rfl))]
  refine ⟨?_, ?_⟩
  · unfold leaveS
    rw [hk, quit_back hs hw he rfl _ (fun y hy => getB_mem.2 (names_mem.1 hy)) (names_nodup hd), if_pos (names_mem.2 (getB_mem.1 (by rw [he]; rfl)))]
  · unfold linS
    rw [List.length_map, List.length_map, ent_some he, ent_some (show getB (putB t k (⟨e.hold, waitS e.hold e.line ⟨k, wr, o⟩⟩ : Ent)) k = _ from by rw [getB_put, if_pos rfl])]
    exact waitS_len _ _ _
end Go.Q
namespace Go.Q
structure LAct where
  kind : Int
  own : Int
  key : Bs
  wr : Bool
  mv : Value
  more : List Int
def laC (a : LAct) : List Value := [iV a.kind, iV a.own, S a.key, .bool a.wr, a.mv]
theorem laC_len (a : LAct) : (laC a).length = 5 := rfl
def LaOk (R : List Hp) (a : LAct) : Prop := Ints R a.mv a.more
theorem LaOk.mono {R R' : List Hp} {a : LAct} (h : LaOk R a) (hs : R ⊆ R') : LaOk R' a := Sl.mono h hs
def LFin (a : LAct) : Prop := a.key.length ≤ 100 ∧ a.more.length ≤ 10
def LFine (l : List LAct) : Prop := l.length ≤ 60 ∧ ∀ a ∈ l, LFin a
theorem LFine.snoc {l : List LAct} {k : Nat} {x : LAct} (h : ∀ a ∈ l.take k, LFin a) (hx : l[k]? = some x) (hf : LFin x) : ∀ a ∈ l.take (k + 1), LFin a := by
  rw [List.take_add_one, hx]
  intro y hy
  rcases List.mem_append.1 hy with g | g
  · exact h y g
  · simp at g; rw [g]; exact hf
theorem names_one (k : Bs) (e : Ent) : namesS [(k, e)] = [k] := by simp [namesS]
def awT1 : Tab := [([97], ⟨[⟨[97], false, 1⟩], []⟩)]
def awT2 : Tab := [([97], ⟨[⟨[97], false, 1⟩], [⟨[97], true, 2⟩]⟩)]
def awT3 : Tab := [([97], ⟨[⟨[97], false, 1⟩], [⟨[97], true, 2⟩, ⟨[97], false, 3⟩]⟩)]
def awT4 : Tab := [([97], ⟨[⟨[97], true, 2⟩], [⟨[97], false, 3⟩]⟩)]
def awT5 : Tab := [([97], ⟨[⟨[97], false, 3⟩], []⟩)]
theorem aw1 : askS [] 1 [97] false = (awT1, 0) := by
  unfold askS waitsS; rw [show namesS [] = [] by simp [namesS]]; rfl
theorem aw2 : askS awT1 2 [97] true = (awT2, 10) := by
  unfold askS waitsS; rw [show namesS awT1 = [[97]] from names_one _ _]; rfl
theorem aw3 : askS awT2 3 [97] false = (awT3, 10) := by
  unfold askS waitsS; rw [show namesS awT2 = [[97]] from names_one _ _]; rfl
theorem aw4 : leaveS true [1] awT3 = (awT4, [2]) := by
  unfold leaveS; rw [show namesS awT3 = [[97]] from names_one _ _]; rfl
theorem aw5 : leaveS true [2] awT4 = (awT5, [3]) := by
  unfold leaveS; rw [show namesS awT4 = [[97]] from names_one _ _]; rfl
theorem aw6 : (holdsC awT5 3).length = 1 := by
  unfold holdsC; rw [show namesS awT5 = [[97]] from names_one _ _]; decide
end Go.Q
namespace Go.Q
theorem LkS.nil : LkS [] := by intro p hp; cases hp
end Go.Q
namespace Go.Q
theorem linS_le {t : Tab} (h : szT t) (k : Bs) : (linS t k).length ≤ 1000 := by
  unfold linS
  rw [List.length_map]
  cases hg : getB t k with
  | none => rw [ent_none hg]; simp
  | some e => rw [ent_some hg]; have := h.get hg; omega
end Go.Q
namespace Go.Q
open Go.Proofs
set_option linter.unusedVariables false
set_option maxRecDepth 100000
attribute [local irreducible] wpList OK Code.wp
set_option maxHeartbeats 4000000 in
theorem same_c {E w : World} {R : List Hp} (hH : Has E w [R]) {va vb : Value} {a b : List Int} (hva : Ints R va a) (hvb : Ints R vb b) :
    Calls Try.prog 49 #[va, vb] w fun e w' => e = .returned (.bool (decide (a = b))) ∧ Has E w' [R] := by
  have hna := hva.le
  have hnb := hvb.le
  refine c_enter (args := [va, vb]) Try.func49 rfl Try.ntmps49 (by simp) ?_
  refine wp_seq_k fun K1 hK1 => ?_
  refine c_region ?_
  refine s_op (o_assign (v := (.bool false)) rfl ?_)
  refine s_nil ?_
  refine t_norm (hK1 _ _ ?_)
  refine wp_seq_k fun K2 hK2 => ?_
  refine wp_seq_k fun K3 hK3 => ?_
  refine c_region ?_
  refine s_op (o_move (v := va) rfl ?_)
  refine s_op (o_lenS Try.underlying54 rfl hva ?_)
  refine s_op (o_move (v := vb) rfl ?_)
  refine s_op (o_lenS Try.underlying54 rfl hvb ?_)
  refine s_op (o_neq (a := ((a.length : Nat) : Int)) (b := ((b.length : Nat) : Int)) rfl rfl ?_)
  refine s_nil ?_
  refine t_norm (hK3 _ _ ?_)
  refine c_cond rfl (fun h4 => ?_) (fun h4 => ?_)
  · -- ((a.length : Nat) : Int) ≠ ((b.length : Nat) : Int)
    refine wp_seq_k fun K5 hK5 => ?_
    refine c_region ?_
    refine s_op (o_assign (v := (.bool false)) rfl ?_)
    refine s_nil ?_
    refine t_norm (hK5 _ _ ?_)
    refine wp_ret ?_
    refine t_ret (c_ret1 Try.results49  (v := (.bool false)) rfl ?_)
    have e : a ≠ b := fun e => by
      subst e
      omega
    exact ⟨by rw [decide_eq_false e], hH⟩
  · -- not: ((a.length : Nat) : Int) ≠ ((b.length : Nat) : Int)
    refine wp_skip ?_
    refine t_norm (hK2 _ _ ?_)
    refine wp_seq_k fun K6 hK6 => ?_
    refine wp_seq_k fun K7 hK7 => ?_
    refine c_region ?_
    refine s_op (o_assign (v := (.int .i64 0)) rfl ?_)
    refine s_nil ?_
    refine t_norm (hK7 _ _ ?_)
    refine wp_block ?_
    let I9 : Nat → (Nat → Value) → World → Prop := fun n__ r__ w__ => ∃ (k : Nat), n__ = a.length - k ∧ Has E w__ [R] ∧ (k ≤ a.length) ∧ (∀ j, j < k → a[j]? = b[j]?) ∧ r__ 0 = va ∧ r__ 1 = vb ∧ r__ 5 = (.int .i64 (k : Int)) ∧ r__ 10 = (.bool (decide (((a.length : Nat) : Int) ≠ ((b.length : Nat) : Int))))
    refine c_loop I9 _ ⟨0, rfl, hH, Nat.zero_le _, (by omega), rfl, rfl, rfl, rfl⟩ ?_
    rintro n_ r12 w10 ⟨k, rfl, hH11, hk, he, e8_0, e8_1, e8_5, e8_10⟩
    refine wp_seq_k fun K13 hK13 => ?_
    refine wp_seq_k fun K14 hK14 => ?_
    refine c_region ?_
    refine s_op (o_move (v := (.int .i64 (k : Int))) e8_5 ?_)
    refine s_op (o_move (v := va) e8_0 ?_)
    refine s_op (o_lenS Try.underlying54 rfl hva ?_)
    refine s_op (o_lss (a := (k : Int)) (b := ((a.length : Nat) : Int)) rfl rfl ?_)
    refine s_nil ?_
    refine t_norm (hK14 _ _ ?_)
    refine c_cond rfl (fun h15 => ?_) (fun h15 => ?_)
    · -- (k : Int) < ((a.length : Nat) : Int)
      refine wp_skip ?_
      refine t_norm (hK13 _ _ ?_)
      refine wp_seq_k fun K16 hK16 => ?_
      refine wp_block ?_
      refine wp_seq_k fun K17 hK17 => ?_
      refine Rest.region mixed (by kernel_rfl) ?_
      have hH18 : Has E { w10 with drawn := w10.drawn + 1 } [R] := Has0.drew hH11 _
      refine Rest.phaseA (fun w_ => Has E w_ [R]) 0 8 8 rfl (by decide) (by kernel_rfl) ?_
      refine a_op 0 rfl (by kernel_rfl) (fun w_ h_ => o_move (v := va) e8_0 ⟨rfl, rfl⟩) ?_
      refine a_op 1 rfl (by kernel_rfl) (fun w_ h_ => o_move (v := (.int .i64 (k : Int))) e8_5 ⟨rfl, rfl⟩) ?_
      obtain ⟨x22, hx23⟩ : ∃ x_, a[((k : Int)).toNat]? = some x_ := get_some (by omega)
      obtain ⟨b19, o20, hc21, ho24⟩ := ix_ex1 Try.underlying54 ti3 hva (by omega) hx23
      refine a_op 2 rfl (by kernel_rfl) (fun w_ h_ => ho24 rfl rfl ⟨rfl, rfl⟩) ?_
      refine a_op 3 rfl (by kernel_rfl) (fun w_ h_ => o_load1 (v := (.int .i64 x22)) Try.underlying3 rfl rfl h_ (seg_sub 0 rfl) hc21 ⟨rfl, rfl⟩) ?_
      refine a_op 4 rfl (by kernel_rfl) (fun w_ h_ => o_move (v := vb) e8_1 ⟨rfl, rfl⟩) ?_
      refine a_op 5 rfl (by kernel_rfl) (fun w_ h_ => o_move (v := (.int .i64 (k : Int))) e8_5 ⟨rfl, rfl⟩) ?_
      obtain ⟨x28, hx29⟩ : ∃ x_, b[((k : Int)).toNat]? = some x_ := get_some (by omega)
      obtain ⟨b25, o26, hc27, ho30⟩ := ix_ex1 Try.underlying54 ti3 hvb (by omega) hx29
      refine a_op 6 rfl (by kernel_rfl) (fun w_ h_ => ho30 rfl rfl ⟨rfl, rfl⟩) ?_
      refine a_op 7 rfl (by kernel_rfl) (fun w_ h_ => o_load1 (v := (.int .i64 x28)) Try.underlying3 rfl rfl h_ (seg_sub 0 rfl) hc27 ⟨rfl, rfl⟩) ?_
      refine a_done (by kernel_rfl) hH18 ?_
      refine r_op 8 rfl (by kernel_rfl) (o_neq (a := x22) (b := x28) rfl rfl ?_)
      refine Rest.done (by kernel_rfl) ?_
      refine t_norm (hK17 _ _ ?_)
      refine c_cond rfl (fun h31 => ?_) (fun h31 => ?_)
      · -- x22 ≠ x28
        refine wp_seq_k fun K32 hK32 => ?_
        refine c_region ?_
        refine s_op (o_assign (v := (.bool false)) rfl ?_)
        refine s_nil ?_
        refine t_norm (hK32 _ _ ?_)
        refine wp_ret ?_
        refine b_ret (t_ret (t_ret (b_ret (t_ret (c_ret1 Try.results49  (v := (.bool false)) rfl ?_)))))
        have e : a ≠ b := fun e => by
          subst e
          have e1 := hx23.symm.trans hx29
          cases e1
          omega
        exact ⟨by rw [decide_eq_false e], hH18⟩
      · -- not: x22 ≠ x28
        refine wp_skip ?_
        refine b_norm ?_
        refine t_norm (hK16 _ _ ?_)
        refine c_region ?_
        refine s_op (o_move (v := (.int .i64 (k : Int))) e8_5 ?_)
        refine s_op (o_add (a := (k : Int)) (b := 1) rfl rfl (w64 (by omega) (by omega)) ?_)
        refine s_op (o_assign (v := (.int .i64 ((k : Int) + 1))) rfl ?_)
        refine s_nil ?_
        refine t_norm ⟨a.length - (k + 1), _, rfl, ?_, ?_⟩
        · omega
        · exact ⟨(k + 1), rfl, hH18, (by omega), (same_step he (by simpa using hx23) (by simpa using hx29) (by omega)), e8_0, e8_1, rfl, e8_10⟩
    · -- not: (k : Int) < ((a.length : Nat) : Int)
      refine wp_exit ?_
      refine t_exit (t_exit (x_in (?_)))
      refine t_norm (hK6 _ _ ?_)
      refine wp_seq_k fun K33 hK33 => ?_
      refine c_region ?_
      refine s_op (o_assign (v := (.bool true)) rfl ?_)
      refine s_nil ?_
      refine t_norm (hK33 _ _ ?_)
      refine wp_ret ?_
      refine c_ret1 Try.results49  (v := (.bool true)) rfl ?_
      have e : a = b := List.ext_getElem? fun j => by
        rcases Nat.lt_or_ge j k with g | g
        · exact he j g
        · rw [List.getElem?_eq_none (by omega), List.getElem?_eq_none (by omega)]
      exact ⟨by rw [decide_eq_true e], hH11⟩
set_option maxHeartbeats 4000000 in
theorem great14_c {E w : World} {R : List Hp} {v_l : Value} {l : List LAct}  (hH : Has E w [R]) (h_l : Sl R 5 v_l l.length (l.flatMap laC)) (hok : ∀ a ∈ l, LaOk R a) :
    Calls Try.prog 36 #[v_l] w fun e w' => ∃ (gb : Bool), e = .returned (.bool gb) ∧ (gb = false → LFine l) ∧ Has E w' [R] := by
  have hn_ := h_l.le
  have hml := fun (x : LAct) (hx : x ∈ l) => (hok x hx).le
  refine c_enter (args := [v_l]) Try.func36 rfl Try.ntmps36 (by simp) ?_
  refine wp_seq_k fun K1 hK1 => ?_
  refine c_region ?_
  refine s_op (o_assign (v := (.bool false)) rfl ?_)
  refine s_nil ?_
  refine t_norm (hK1 _ _ ?_)
  refine wp_seq_k fun K2 hK2 => ?_
  refine wp_seq_k fun K3 hK3 => ?_
  refine c_region ?_
  refine s_op (o_move (v := v_l) rfl ?_)
  refine s_op (o_lenS Try.underlying66 rfl h_l ?_)
  refine s_op (o_gtr (a := ((l.length : Nat) : Int)) (b := 60) rfl rfl ?_)
  refine s_nil ?_
  refine t_norm (hK3 _ _ ?_)
  refine c_cond rfl (fun h4 => ?_) (fun h4 => ?_)
  · -- 60 < ((l.length : Nat) : Int)
    refine wp_seq_k fun K5 hK5 => ?_
    refine c_region ?_
    refine s_op (o_assign (v := (.bool true)) rfl ?_)
    refine s_nil ?_
    refine t_norm (hK5 _ _ ?_)
    refine wp_ret ?_
    refine t_ret (c_ret1 Try.results36  (v := (.bool true)) rfl ?_)
    exact ⟨true, rfl, (fun g => by cases g), hH⟩
  · -- not: 60 < ((l.length : Nat) : Int)
    refine wp_skip ?_
    refine t_norm (hK2 _ _ ?_)
    refine wp_seq_k fun K6 hK6 => ?_
    refine wp_seq_k fun K7 hK7 => ?_
    refine c_region ?_
    refine s_op (o_assign (v := (.int .i64 0)) rfl ?_)
    refine s_nil ?_
    refine t_norm (hK7 _ _ ?_)
    refine wp_block ?_
    let I9 : Nat → (Nat → Value) → World → Prop := fun n__ r__ w__ => ∃ (k : Nat), n__ = l.length - k ∧ Has E w__ [R] ∧ (k ≤ l.length) ∧ (∀ a ∈ l.take k, LFin a) ∧ r__ 0 = v_l ∧ r__ 3 = (.int .i64 (k : Int)) ∧ r__ 6 = (.bool (decide (60 < ((l.length : Nat) : Int))))
    refine c_loop I9 _ ⟨0, rfl, hH, Nat.zero_le _, (by simp), rfl, rfl, rfl⟩ ?_
    rintro n_ r12 w10 ⟨k, rfl, hH11, hk, hfn, e8_0, e8_3, e8_6⟩
    refine wp_seq_k fun K13 hK13 => ?_
    refine wp_seq_k fun K14 hK14 => ?_
    refine c_region ?_
    refine s_op (o_move (v := (.int .i64 (k : Int))) e8_3 ?_)
    refine s_op (o_move (v := v_l) e8_0 ?_)
    refine s_op (o_lenS Try.underlying66 rfl h_l ?_)
    refine s_op (o_lss (a := (k : Int)) (b := ((l.length : Nat) : Int)) rfl rfl ?_)
    refine s_nil ?_
    refine t_norm (hK14 _ _ ?_)
    refine c_cond rfl (fun h15 => ?_) (fun h15 => ?_)
    · -- (k : Int) < ((l.length : Nat) : Int)
      refine wp_skip ?_
      refine t_norm (hK13 _ _ ?_)
      refine wp_seq_k fun K16 hK16 => ?_
      refine wp_block ?_
      refine wp_seq_k fun K17 hK17 => ?_
      refine c_region ?_
      refine s_op (o_move (v := v_l) e8_0 ?_)
      refine s_op (o_move (v := (.int .i64 (k : Int))) e8_3 ?_)
      obtain ⟨x21, hx22⟩ : ∃ x_, l[((k : Int)).toNat]? = some x_ := get_some (by omega)
      refine s_op (o_indexF laC_len Try.underlying66 ti71 rfl h_l rfl rfl (by omega) hx22 fun b18 o19 hc20 => ?_)
      refine s_op (o_fieldAddr (k := o19 + 2) (fun _ => by kernel_rfl) rfl ?_)
      refine s_op (o_load1 (v := (S x21.key)) Try.underlying9 rfl rfl hH11 (seg_sub 0 rfl) (CellsAt.field (k := 2) (ds := [(S x21.key)]) hc20 rfl) ?_)
      refine s_op (o_slen Try.underlying9 rfl ?_)
      refine s_op (o_gtr (a := (x21.key.length : Int)) (b := 100) rfl rfl ?_)
      refine s_op (o_move (v := (.bool (decide (100 < (x21.key.length : Int))))) rfl ?_)
      by_cases h23 : 100 < (x21.key.length : Int)
      · -- 100 < (x21.key.length : Int)
        refine s_off (b' := true) 20 rfl (congrArg Value.bool (decide_eq_true h23)) rfl ?_
        refine s_off (b' := true) 20 rfl (congrArg Value.bool (decide_eq_true h23)) rfl ?_
        refine s_off (b' := true) 20 rfl (congrArg Value.bool (decide_eq_true h23)) rfl ?_
        refine s_off (b' := true) 20 rfl (congrArg Value.bool (decide_eq_true h23)) rfl ?_
        refine s_off (b' := true) 20 rfl (congrArg Value.bool (decide_eq_true h23)) rfl ?_
        refine s_off (b' := true) 20 rfl (congrArg Value.bool (decide_eq_true h23)) rfl ?_
        refine s_off (b' := true) 20 rfl (congrArg Value.bool (decide_eq_true h23)) rfl ?_
        refine s_op (o_pick_t (u := (.bool true)) ((rfl : _ = _).trans (congrArg Value.bool (decide_eq_true h23))) rfl ?_)
        refine s_nil ?_
        refine t_norm (hK17 _ _ ?_)
        refine c_true rfl rfl ?_
        refine wp_seq_k fun K24 hK24 => ?_
        refine c_region ?_
        refine s_op (o_assign (v := (.bool true)) rfl ?_)
        refine s_nil ?_
        refine t_norm (hK24 _ _ ?_)
        refine wp_ret ?_
        refine b_ret (t_ret (t_ret (b_ret (t_ret (c_ret1 Try.results36  (v := (.bool true)) rfl ?_)))))
        exact ⟨true, rfl, (fun g => by cases g), hH11⟩
      · -- not: 100 < (x21.key.length : Int)
        refine s_on 20 rfl (congrArg Value.bool (decide_eq_false h23)) (o_move (v := v_l) e8_0 ?_)
        refine s_on 20 rfl (congrArg Value.bool (decide_eq_false h23)) (o_move (v := (.int .i64 (k : Int))) e8_3 ?_)
        refine s_on 20 rfl (congrArg Value.bool (decide_eq_false h23)) (o_indexF laC_len Try.underlying66 ti71 rfl h_l rfl rfl (by omega) hx22 fun b25 o26 hc27 => ?_)
        refine s_on 20 rfl (congrArg Value.bool (decide_eq_false h23)) (o_fieldAddr (k := o26 + 4) (fun _ => by kernel_rfl) rfl ?_)
        refine s_on 20 rfl (congrArg Value.bool (decide_eq_false h23)) (o_load1 (v := x21.mv) Try.underlying54 rfl rfl hH11 (seg_sub 0 rfl) (CellsAt.field (k := 4) (ds := [x21.mv]) hc27 rfl) ?_)
        refine s_on 20 rfl (congrArg Value.bool (decide_eq_false h23)) (o_lenS Try.underlying54 rfl (hok _ (List.mem_of_getElem? hx22)) ?_)
        refine s_on 20 rfl (congrArg Value.bool (decide_eq_false h23)) (o_gtr (a := ((x21.more.length : Nat) : Int)) (b := 10) rfl rfl ?_)
        refine s_op (o_pick_f (u := (.bool (decide (10 < ((x21.more.length : Nat) : Int))))) ((rfl : _ = _).trans (congrArg Value.bool (decide_eq_false h23))) rfl ?_)
        refine s_nil ?_
        refine t_norm (hK17 _ _ ?_)
        refine c_cond rfl (fun h28 => ?_) (fun h28 => ?_)
        · -- 10 < ((x21.more.length : Nat) : Int)
          refine wp_seq_k fun K29 hK29 => ?_
          refine c_region ?_
          refine s_op (o_assign (v := (.bool true)) rfl ?_)
          refine s_nil ?_
          refine t_norm (hK29 _ _ ?_)
          refine wp_ret ?_
          refine b_ret (t_ret (t_ret (b_ret (t_ret (c_ret1 Try.results36  (v := (.bool true)) rfl ?_)))))
          exact ⟨true, rfl, (fun g => by cases g), hH11⟩
        · -- not: 10 < ((x21.more.length : Nat) : Int)
          refine wp_skip ?_
          refine b_norm ?_
          refine t_norm (hK16 _ _ ?_)
          refine c_region ?_
          refine s_op (o_move (v := (.int .i64 (k : Int))) e8_3 ?_)
          refine s_op (o_add (a := (k : Int)) (b := 1) rfl rfl (w64 (by omega) (by omega)) ?_)
          refine s_op (o_assign (v := (.int .i64 ((k : Int) + 1))) rfl ?_)
          refine s_nil ?_
          refine t_norm ⟨l.length - (k + 1), _, rfl, ?_, ?_⟩
          · omega
          · exact ⟨(k + 1), rfl, hH11, (by omega), (LFine.snoc hfn (show l[k]? = some _ from hx22) ⟨by omega, by omega⟩), e8_0, rfl, e8_6⟩
    · -- not: (k : Int) < ((l.length : Nat) : Int)
      refine wp_exit ?_
      refine t_exit (t_exit (x_in (?_)))
      refine t_norm (hK6 _ _ ?_)
      refine wp_seq_k fun K30 hK30 => ?_
      refine c_region ?_
      refine s_op (o_assign (v := (.bool false)) rfl ?_)
      refine s_nil ?_
      refine t_norm (hK30 _ _ ?_)
      refine wp_ret ?_
      refine c_ret1 Try.results36  (v := (.bool false)) rfl ?_
      have e_ : k = l.length := by omega
      rw [e_, List.take_of_length_le (Nat.le_refl _)] at hfn
      exact ⟨false, rfl, (fun _ => ⟨by omega, hfn⟩), hH11⟩
set_option maxHeartbeats 4000000 in
theorem awake14_c {E w : World} {R : List Hp}   (hH : Has E w [R]) :
    Calls Try.prog 37 #[] w fun e w' => e = .returned (.bool true) ∧ Has E w' [R] := by
  refine c_enter (args := []) Try.func37 rfl Try.ntmps37 (by simp) ?_
  refine wp_seq_k fun K1 hK1 => ?_
  refine c_region ?_
  refine s_op (o_assign (v := (.bool false)) rfl ?_)
  refine s_nil ?_
  refine t_norm (hK1 _ _ ?_)
  refine wp_seq_k fun K2 hK2 => ?_
  refine c_region ?_
  refine s_op (o_callf (vs := #[]) ca38 rfl (args0) (new_c hH.all ) ?_)
  rintro _ w8 ⟨b3, sg4, rfl, hd5, hX6⟩
  refine ⟨_, rfl, ?_⟩
  have hH7 : Has E w8 [sg4, R] := hX6.of_all1
  refine s_op (o_assign (v := (.pointer (some ⟨b3, 0, none⟩))) rfl ?_)
  refine s_nil ?_
  refine t_norm (hK2 _ _ ?_)
  refine wp_seq_k fun K9 hK9 => ?_
  refine c_region ?_
  refine s_op (o_move (v := (.pointer (some ⟨b3, 0, none⟩))) rfl ?_)
  refine s_op (o_sight (v := (.agg #[(S [97]), (.bool false)])) (fun _ => by kernel_rfl) ?_)
  refine s_op (o_callf (vs := #[(.pointer (some ⟨b3, 0, none⟩)), (.int .i64 1), (.agg #[(S [97]), (.bool false)])]) ca39 rfl (args3 rfl rfl rfl) (ask_c (v := (⟨[]⟩ : TabS)) (o := 1) (k := [97]) (wr := false) hH7.all1 hd5 (LkB.nil.hkl) (LkB.nil.hkn (by omega)) (LkB.nil.sz (by omega))) ?_)
  rintro _ w14 ⟨sg10, rfl, hd11, hX12⟩
  refine ⟨_, rfl, ?_⟩
  have hH13 : Has E w14 [sg10, R] := hX12.of_all1
  have hb15 := LkB.nil.ask (o := 1) (k := [97]) (wr := false) (by decide)
  have hs16 := LkS.nil.ask (o := 1) (k := [97]) (wr := false)
  have hd17 := ask_nodup (o := 1) (k := [97]) (wr := false) (show (([] : Tab).map (·.1)).Nodup from List.nodup_nil)
  have hd18 : TbAt b3 sg10 (⟨awT1⟩ : TabS) := by have h9_ := hd11; simp only [aw1, aw2, aw3, aw4, aw5] at h9_; exact h9_
  have hb19 := hb15
  simp only [aw1, aw2, aw3, aw4, aw5] at hb19
  have hd20 := hd17
  simp only [aw1, aw2, aw3, aw4, aw5] at hd20
  have hs21 := hs16
  simp only [aw1, aw2, aw3, aw4, aw5] at hs21
  refine s_op (o_assign (v := (.int .i64 ((askS (⟨[]⟩ : TabS).keys 1 [97] false).2))) rfl ?_)
  refine s_nil ?_
  refine t_norm (hK9 _ _ ?_)
  refine wp_seq_k fun K22 hK22 => ?_
  refine c_region ?_
  refine s_op (o_move (v := (.pointer (some ⟨b3, 0, none⟩))) rfl ?_)
  refine s_op (o_sight (v := (.agg #[(S [97]), (.bool true)])) (fun _ => by kernel_rfl) ?_)
  refine s_op (o_callf (vs := #[(.pointer (some ⟨b3, 0, none⟩)), (.int .i64 2), (.agg #[(S [97]), (.bool true)])]) ca39 rfl (args3 rfl rfl rfl) (ask_c (v := (⟨awT1⟩ : TabS)) (o := 2) (k := [97]) (wr := true) hH13.all1 hd18 (hb19.hkl) (hb19.hkn (by omega)) (hb19.sz (by omega))) ?_)
  rintro _ w27 ⟨sg23, rfl, hd24, hX25⟩
  refine ⟨_, rfl, ?_⟩
  have hH26 : Has E w27 [sg23, R] := hX25.of_all1
  have hb28 := hb19.ask (o := 2) (k := [97]) (wr := true) (by decide)
  have hs29 := hs21.ask (o := 2) (k := [97]) (wr := true)
  have hd30 := ask_nodup (o := 2) (k := [97]) (wr := true) hd20
  have hd31 : TbAt b3 sg23 (⟨awT2⟩ : TabS) := by have h9_ := hd24; simp only [aw1, aw2, aw3, aw4, aw5] at h9_; exact h9_
  have hb32 := hb28
  simp only [aw1, aw2, aw3, aw4, aw5] at hb32
  have hd33 := hd30
  simp only [aw1, aw2, aw3, aw4, aw5] at hd33
  have hs34 := hs29
  simp only [aw1, aw2, aw3, aw4, aw5] at hs34
  refine s_op (o_assign (v := (.int .i64 ((askS (⟨awT1⟩ : TabS).keys 2 [97] true).2))) rfl ?_)
  refine s_nil ?_
  refine t_norm (hK22 _ _ ?_)
  refine wp_seq_k fun K35 hK35 => ?_
  refine c_region ?_
  refine s_op (o_move (v := (.pointer (some ⟨b3, 0, none⟩))) rfl ?_)
  refine s_op (o_sight (v := (.agg #[(S [97]), (.bool false)])) (fun _ => by kernel_rfl) ?_)
  refine s_op (o_callf (vs := #[(.pointer (some ⟨b3, 0, none⟩)), (.int .i64 3), (.agg #[(S [97]), (.bool false)])]) ca39 rfl (args3 rfl rfl rfl) (ask_c (v := (⟨awT2⟩ : TabS)) (o := 3) (k := [97]) (wr := false) hH26.all1 hd31 (hb32.hkl) (hb32.hkn (by omega)) (hb32.sz (by omega))) ?_)
  rintro _ w40 ⟨sg36, rfl, hd37, hX38⟩
  refine ⟨_, rfl, ?_⟩
  have hH39 : Has E w40 [sg36, R] := hX38.of_all1
  have hb41 := hb32.ask (o := 3) (k := [97]) (wr := false) (by decide)
  have hs42 := hs34.ask (o := 3) (k := [97]) (wr := false)
  have hd43 := ask_nodup (o := 3) (k := [97]) (wr := false) hd33
  have hd44 : TbAt b3 sg36 (⟨awT3⟩ : TabS) := by have h9_ := hd37; simp only [aw1, aw2, aw3, aw4, aw5] at h9_; exact h9_
  have hb45 := hb41
  simp only [aw1, aw2, aw3, aw4, aw5] at hb45
  have hd46 := hd43
  simp only [aw1, aw2, aw3, aw4, aw5] at hd46
  have hs47 := hs42
  simp only [aw1, aw2, aw3, aw4, aw5] at hs47
  refine s_op (o_assign (v := (.int .i64 ((askS (⟨awT2⟩ : TabS).keys 3 [97] false).2))) rfl ?_)
  refine s_nil ?_
  refine t_norm (hK35 _ _ ?_)
  refine wp_seq_k fun K48 hK48 => ?_
  refine c_region ?_
  refine s_op (o_move (v := (.int .i64 ((askS (⟨[]⟩ : TabS).keys 1 [97] false).2))) rfl ?_)
  refine s_op (o_eql (a := (askS (⟨[]⟩ : TabS).keys 1 [97] false).2) (b := 0) rfl rfl ?_)
  refine s_op (o_move (v := (.bool (decide ((askS (⟨[]⟩ : TabS).keys 1 [97] false).2 = 0)))) rfl ?_)
  by_cases h49 : (askS (⟨[]⟩ : TabS).keys 1 [97] false).2 = 0
  · -- (askS (⟨[]⟩ : TabS).keys 1 [97] false).2 = 0
    refine s_on 17 rfl (congrArg Value.bool (decide_eq_true h49)) (o_move (v := (.int .i64 ((askS (⟨awT1⟩ : TabS).keys 2 [97] true).2))) rfl ?_)
    refine s_on 17 rfl (congrArg Value.bool (decide_eq_true h49)) (o_eql (a := (askS (⟨awT1⟩ : TabS).keys 2 [97] true).2) (b := 10) rfl rfl ?_)
    refine s_op (o_pick_t (u := (.bool (decide ((askS (⟨awT1⟩ : TabS).keys 2 [97] true).2 = 10)))) ((rfl : _ = _).trans (congrArg Value.bool (decide_eq_true h49))) rfl ?_)
    refine s_op (o_move (v := (.bool (decide ((askS (⟨awT1⟩ : TabS).keys 2 [97] true).2 = 10)))) rfl ?_)
    by_cases h50 : (askS (⟨awT1⟩ : TabS).keys 2 [97] true).2 = 10
    · -- (askS (⟨awT1⟩ : TabS).keys 2 [97] true).2 = 10
      refine s_on 21 rfl (congrArg Value.bool (decide_eq_true h50)) (o_move (v := (.int .i64 ((askS (⟨awT2⟩ : TabS).keys 3 [97] false).2))) rfl ?_)
      refine s_on 21 rfl (congrArg Value.bool (decide_eq_true h50)) (o_eql (a := (askS (⟨awT2⟩ : TabS).keys 3 [97] false).2) (b := 10) rfl rfl ?_)
      refine s_op (o_pick_t (u := (.bool (decide ((askS (⟨awT2⟩ : TabS).keys 3 [97] false).2 = 10)))) ((rfl : _ = _).trans (congrArg Value.bool (decide_eq_true h50))) rfl ?_)
      refine s_op (o_move (v := (.bool (decide ((askS (⟨awT2⟩ : TabS).keys 3 [97] false).2 = 10)))) rfl ?_)
      by_cases h51 : (askS (⟨awT2⟩ : TabS).keys 3 [97] false).2 = 10
      · -- (askS (⟨awT2⟩ : TabS).keys 3 [97] false).2 = 10
        refine s_on 25 rfl (congrArg Value.bool (decide_eq_true h51)) (o_move (v := (.pointer (some ⟨b3, 0, none⟩))) rfl ?_)
        refine s_on 25 rfl (congrArg Value.bool (decide_eq_true h51)) (o_buildSlice (ps := #[(0, (.int .i64 1))]) (cells := #[(.int .i64 1)]) Try.underlying54 ti3 (by decide) (parts1 rfl) (by kernel_rfl) hH39 fun b52 w53 hH54 => ?_)
        refine s_on 25 rfl (congrArg Value.bool (decide_eq_true h51)) (o_callf (vs := #[(.pointer (some ⟨b3, 0, none⟩)), (.slice (some ⟨b52, 0, none⟩) 1 1)]) ca41 rfl (args2 rfl rfl) (free_t (v := (⟨awT3⟩ : TabS)) (ow := [1]) (hH54.front 1 rfl).all1 hd44 ((sl_lit (f := iV) (l := [1]) rfl rfl (by simp)).mono (seg_sub 0 rfl)) (hb45.hkl) (hb45.hkn (by omega)) (hb45.sz (by omega))) ?_)
        rintro _ w62 ⟨v55, s56, sg58, rfl, ho57, hd59, hX60⟩
        refine ⟨_, rfl, ?_⟩
        have hH61 : Has E w62 [s56, sg58, [Hp.one b52 (.cells #[(.int .i64 1)] 3 (0, 0))], R] := hX60.of_all2
        have hb63 := hb45.leave hd46 (all := true) (ow := [1])
        have hs64 := hs47.leave hd46 (all := true) (ow := [1])
        have hd65 := leave_nodup hd46 (all := true) (ow := [1])
        have hd66 : TbAt b3 sg58 (⟨awT4⟩ : TabS) := by have h9_ := hd59; simp only [aw1, aw2, aw3, aw4, aw5] at h9_; exact h9_
        have hb67 := hb63
        simp only [aw1, aw2, aw3, aw4, aw5] at hb67
        have hd68 := hd65
        simp only [aw1, aw2, aw3, aw4, aw5] at hd68
        have hs69 := hs64
        simp only [aw1, aw2, aw3, aw4, aw5] at hs69
        refine s_on 25 rfl (congrArg Value.bool (decide_eq_true h51)) (o_buildSlice (ps := #[(0, (.int .i64 2))]) (cells := #[(.int .i64 2)]) Try.underlying54 ti3 (by decide) (parts1 rfl) (by kernel_rfl) hH61 fun b70 w71 hH72 => ?_)
        refine s_on 25 rfl (congrArg Value.bool (decide_eq_true h51)) (o_callf (vs := #[v55, (.slice (some ⟨b70, 0, none⟩) 1 1)]) ca49 rfl (args2 rfl rfl) (same_c hH72.all (a := ((leaveS true [1] (⟨awT3⟩ : TabS).keys).2)) (b := [2]) (ho57.sl.mono (seg_sub 1 rfl)) ((sl_lit (f := iV) (l := [2]) rfl rfl (by simp)).mono (seg_sub 0 rfl))) ?_)
        rintro _ w75 ⟨rfl, hX73⟩
        refine ⟨_, rfl, ?_⟩
        have hH74 := hX73.of_all
        refine s_op (o_pick_t (u := (.bool (decide (((leaveS true [1] (⟨awT3⟩ : TabS).keys).2) = [2])))) ((rfl : _ = _).trans (congrArg Value.bool (decide_eq_true h51))) rfl ?_)
        refine s_op (o_move (v := (.bool (decide (((leaveS true [1] (⟨awT3⟩ : TabS).keys).2) = [2])))) rfl ?_)
        by_cases h76 : ((leaveS true [1] (⟨awT3⟩ : TabS).keys).2) = [2]
        · -- ((leaveS true [1] (⟨awT3⟩ : TabS).keys).2) = [2]
          refine s_on 32 rfl (congrArg Value.bool (decide_eq_true h76)) (o_move (v := (.pointer (some ⟨b3, 0, none⟩))) rfl ?_)
          refine s_on 32 rfl (congrArg Value.bool (decide_eq_true h76)) (o_buildSlice (ps := #[(0, (.int .i64 2))]) (cells := #[(.int .i64 2)]) Try.underlying54 ti3 (by decide) (parts1 rfl) (by kernel_rfl) hH74 fun b77 w78 hH79 => ?_)
          refine s_on 32 rfl (congrArg Value.bool (decide_eq_true h76)) (o_callf (vs := #[(.pointer (some ⟨b3, 0, none⟩)), (.slice (some ⟨b77, 0, none⟩) 1 1)]) ca41 rfl (args2 rfl rfl) (free_t (v := (⟨awT4⟩ : TabS)) (ow := [2]) (hH79.front 3 rfl).all1 hd66 ((sl_lit (f := iV) (l := [2]) rfl rfl (by simp)).mono (seg_sub 0 rfl)) (hb67.hkl) (hb67.hkn (by omega)) (hb67.sz (by omega))) ?_)
          rintro _ w87 ⟨v80, s81, sg83, rfl, ho82, hd84, hX85⟩
          refine ⟨_, rfl, ?_⟩
          have hH86 : Has E w87 [s81, sg83, [Hp.one b77 (.cells #[(.int .i64 2)] 3 (0, 0))], [Hp.one b70 (.cells #[(.int .i64 2)] 3 (0, 0))], s56, [Hp.one b52 (.cells #[(.int .i64 1)] 3 (0, 0))], R] := hX85.of_all2
          have hb88 := hb67.leave hd68 (all := true) (ow := [2])
          have hs89 := hs69.leave hd68 (all := true) (ow := [2])
          have hd90 := leave_nodup hd68 (all := true) (ow := [2])
          have hd91 : TbAt b3 sg83 (⟨awT5⟩ : TabS) := by have h9_ := hd84; simp only [aw1, aw2, aw3, aw4, aw5] at h9_; exact h9_
          have hb92 := hb88
          simp only [aw1, aw2, aw3, aw4, aw5] at hb92
          have hd93 := hd90
          simp only [aw1, aw2, aw3, aw4, aw5] at hd93
          have hs94 := hs89
          simp only [aw1, aw2, aw3, aw4, aw5] at hs94
          refine s_on 32 rfl (congrArg Value.bool (decide_eq_true h76)) (o_buildSlice (ps := #[(0, (.int .i64 3))]) (cells := #[(.int .i64 3)]) Try.underlying54 ti3 (by decide) (parts1 rfl) (by kernel_rfl) hH86 fun b95 w96 hH97 => ?_)
          refine s_on 32 rfl (congrArg Value.bool (decide_eq_true h76)) (o_callf (vs := #[v80, (.slice (some ⟨b95, 0, none⟩) 1 1)]) ca49 rfl (args2 rfl rfl) (same_c hH97.all (a := ((leaveS true [2] (⟨awT4⟩ : TabS).keys).2)) (b := [3]) (ho82.sl.mono (seg_sub 1 rfl)) ((sl_lit (f := iV) (l := [3]) rfl rfl (by simp)).mono (seg_sub 0 rfl))) ?_)
          rintro _ w100 ⟨rfl, hX98⟩
          refine ⟨_, rfl, ?_⟩
          have hH99 := hX98.of_all
          refine s_op (o_pick_t (u := (.bool (decide (((leaveS true [2] (⟨awT4⟩ : TabS).keys).2) = [3])))) ((rfl : _ = _).trans (congrArg Value.bool (decide_eq_true h76))) rfl ?_)
          refine s_op (o_move (v := (.bool (decide (((leaveS true [2] (⟨awT4⟩ : TabS).keys).2) = [3])))) rfl ?_)
          by_cases h101 : ((leaveS true [2] (⟨awT4⟩ : TabS).keys).2) = [3]
          · -- ((leaveS true [2] (⟨awT4⟩ : TabS).keys).2) = [3]
            refine s_on 39 rfl (congrArg Value.bool (decide_eq_true h101)) (o_move (v := (.pointer (some ⟨b3, 0, none⟩))) rfl ?_)
            refine s_on 39 rfl (congrArg Value.bool (decide_eq_true h101)) (o_callf (vs := #[(.pointer (some ⟨b3, 0, none⟩)), (.int .i64 3)]) ca43 rfl (args2 rfl rfl) (holds_c (v := (⟨awT5⟩ : TabS)) (o := 3) hH99.all (hd91.rd.mono (seg_sub 2 rfl)) (hb92.hkl) (hb92.hkn (by omega))) ?_)
            rintro _ w107 ⟨v102, s103, rfl, ho104, hX105⟩
            refine ⟨_, rfl, ?_⟩
            have hH106 : Has E w107 [s103, [Hp.one b95 (.cells #[(.int .i64 3)] 3 (0, 0))], s81, sg83, [Hp.one b77 (.cells #[(.int .i64 2)] 3 (0, 0))], [Hp.one b70 (.cells #[(.int .i64 2)] 3 (0, 0))], s56, [Hp.one b52 (.cells #[(.int .i64 1)] 3 (0, 0))], R] := hX105.of_all1
            refine s_on 39 rfl (congrArg Value.bool (decide_eq_true h101)) (o_lenS Try.underlying78 rfl ho104.sl ?_)
            refine s_on 39 rfl (congrArg Value.bool (decide_eq_true h101)) (o_eql (a := (((holdsC (⟨awT5⟩ : TabS).keys 3).length : Nat) : Int)) (b := 1) rfl rfl ?_)
            refine s_op (o_pick_t (u := (.bool (decide ((((holdsC (⟨awT5⟩ : TabS).keys 3).length : Nat) : Int) = 1)))) ((rfl : _ = _).trans (congrArg Value.bool (decide_eq_true h101))) rfl ?_)
            refine s_op (o_assign (v := (.bool (decide ((((holdsC (⟨awT5⟩ : TabS).keys 3).length : Nat) : Int) = 1)))) rfl ?_)
            refine s_nil ?_
            refine t_norm (hK48 _ _ ?_)
            refine wp_ret ?_
            refine c_ret1 Try.results37  (v := (.bool (decide ((((holdsC (⟨awT5⟩ : TabS).keys 3).length : Nat) : Int) = 1)))) rfl ?_
            have hH108 : Has E w107 [R] := (hH106.front 8 rfl).first 1 rfl
            exact ⟨by first | rfl | (simp only [aw1, aw2, aw3, aw4, aw5, aw6]; rfl), hH108⟩
          · -- not: ((leaveS true [2] (⟨awT4⟩ : TabS).keys).2) = [3]
            exact absurd (by simp only [aw1, aw2, aw3, aw4, aw5, aw6]; try rfl) h101
        · -- not: ((leaveS true [1] (⟨awT3⟩ : TabS).keys).2) = [2]
          exact absurd (by simp only [aw1, aw2, aw3, aw4, aw5, aw6]; try rfl) h76
      · -- not: (askS (⟨awT2⟩ : TabS).keys 3 [97] false).2 = 10
        exact absurd (by simp only [aw1, aw2, aw3, aw4, aw5, aw6]; try rfl) h51
    · -- not: (askS (⟨awT1⟩ : TabS).keys 2 [97] true).2 = 10
      exact absurd (by simp only [aw1, aw2, aw3, aw4, aw5, aw6]; try rfl) h50
  · -- not: (askS (⟨[]⟩ : TabS).keys 1 [97] false).2 = 0
    exact absurd (by simp only [aw1, aw2, aw3, aw4, aw5, aw6]; try rfl) h49
end Go.Q
namespace Go.Q
open Go.Proofs
set_option linter.unusedVariables false
set_option maxRecDepth 100000
attribute [local irreducible] wpList OK Code.wp
set_option maxHeartbeats 4000000 in
theorem names_nil {E w : World} {R : List Hp}   (hH : Has E w [R]) :
    Calls Try.prog 95 #[(.pointer none)] w fun e w' => e = .returned (.slice none 0 0) ∧ Has E w' [R] := by
  refine c_enter (args := [(.pointer none)]) Try.func95 rfl Try.ntmps95 (by simp) ?_
  refine wp_seq_k fun K1 hK1 => ?_
  refine c_region ?_
  refine s_op (o_assign (v := (.slice none 0 0)) rfl ?_)
  refine s_nil ?_
  refine t_norm (hK1 _ _ ?_)
  refine wp_seq_k fun K2 hK2 => ?_
  refine wp_seq_k fun K3 hK3 => ?_
  refine c_region ?_
  refine s_op (o_move (v := (.pointer none)) rfl ?_)
  refine s_op (o_pnil (p := none) Try.underlying68 rfl rfl ?_)
  refine s_nil ?_
  refine t_norm (hK3 _ _ ?_)
  refine c_true rfl rfl ?_
  refine wp_seq_k fun K4 hK4 => ?_
  refine c_region ?_
  refine s_op (o_assign (v := (.slice none 0 0)) rfl ?_)
  refine s_nil ?_
  refine t_norm (hK4 _ _ ?_)
  refine wp_ret ?_
  refine t_ret (c_ret1 Try.results95  (v := (.slice none 0 0)) rfl ?_)
  exact ⟨rfl, hH⟩
set_option maxHeartbeats 4000000 in
theorem waits_nil {E w : World} {R : List Hp}  {o : Int}  (hH : Has E w [R]) :
    Calls Try.prog 44 #[(.pointer none), (.int .i64 o)] w fun e w' => e = .returned (.tuple #[(.agg #[(S ([] : List UInt8)), (.bool false)]), (.bool false)]) ∧ Has E w' [R] := by
  refine c_enter (args := [(.pointer none), (.int .i64 o)]) Try.func44 rfl Try.ntmps44 (by simp) ?_
  refine wp_seq_k fun K1 hK1 => ?_
  refine c_region ?_
  refine s_op (o_alloc (cs := #[(S ([] : List UInt8)), (.bool false)]) ti74 rfl hH fun b2 w3 hH4 => ?_)
  refine s_op (o_assign (v := (.bool false)) rfl ?_)
  refine s_nil ?_
  refine t_norm (hK1 _ _ ?_)
  refine wp_seq_k fun K5 hK5 => ?_
  refine wp_seq_k fun K6 hK6 => ?_
  refine c_region ?_
  refine s_op (o_move (v := (.pointer none)) rfl ?_)
  refine s_op (o_callf (vs := #[(.pointer none)]) ca95 rfl (args1 rfl) (names_nil hH4.all ) ?_)
  rintro _ w9 ⟨rfl, hX7⟩
  refine ⟨_, rfl, ?_⟩
  have hH8 := hX7.of_all
  refine s_op (o_lenS Try.underlying53 rfl (sl_nil (L := []) 1) ?_)
  refine s_op (o_move (v := (.int .i64 0)) rfl ?_)
  refine s_nil ?_
  refine t_norm (hK6 _ _ ?_)
  refine wp_block ?_
  let I11 : Nat → (Nat → Value) → World → Prop := fun n__ r__ w__ => ∃ (k : Nat), n__ = 0 - k ∧ Has E w__ [[Hp.one b2 (.cells #[(S ([] : List UInt8)), (.bool false)] 74 (0, 0))], R] ∧ (k ≤ 0) ∧ r__ 0 = (.pointer none) ∧ r__ 1 = (.int .i64 o) ∧ r__ 4 = (.pointer (some ⟨b2, 0, none⟩)) ∧ r__ 11 = (.slice none 0 0) ∧ r__ 12 = (.int .i64 ((0 : Nat) : Int)) ∧ r__ 13 = (.int .i64 (k : Int))
  refine c_loop I11 _ ⟨0, rfl, hH8, Nat.le_refl _, rfl, rfl, rfl, rfl, rfl, rfl⟩ ?_
  rintro n_ r14 w12 ⟨k, rfl, hH13, hk, e10_0, e10_1, e10_4, e10_11, e10_12, e10_13⟩
  refine wp_seq_k fun K15 hK15 => ?_
  refine c_region ?_
  refine s_op (o_lss (a := (k : Int)) (b := ((0 : Nat) : Int)) e10_13 e10_12 ?_)
  refine s_nil ?_
  refine t_norm (hK15 _ _ ?_)
  refine wp_seq_k fun K16 hK16 => ?_
  refine c_cond rfl (fun h17 => ?_) (fun h17 => ?_)
  · -- (k : Int) < ((0 : Nat) : Int)
    exfalso; first | omega | (simp at h17; omega)
  · -- not: (k : Int) < ((0 : Nat) : Int)
    refine wp_exit ?_
    refine t_exit (t_exit (x_in (?_)))
    refine t_norm (hK5 _ _ ?_)
    refine wp_seq_k fun K18 hK18 => ?_
    refine c_region ?_
    refine s_op (o_sight (v := (.agg #[(S ([] : List UInt8)), (.bool false)])) (fun _ => by kernel_rfl) ?_)
    refine s_eff (o_storeN (vs := [(S ([] : List UInt8)), (.bool false)]) (c' := #[(S ([] : List UInt8)), (.bool false)]) ti74 e10_4 rfl rfl rfl (by intro u hu; simp only [List.mem_cons, List.not_mem_nil, or_false] at hu; rcases hu with rfl | rfl <;> first | rfl) (by simp) (by kernel_rfl) (hH13.front 0 rfl) fun w19 hH20 => ?_)
    refine s_op (o_assign (v := (.bool false)) rfl ?_)
    refine s_nil ?_
    refine t_norm (hK18 _ _ ?_)
    refine wp_ret ?_
    refine c_retC2 Try.results44 e10_4 (run_loadVarN (cs := [(S ([] : List UInt8)), (.bool false)]) Try.underlying74 rfl ti74 hH20 (seg_sub 0 rfl) (CellsAt.one rfl)) (x := (.bool false)) rfl ?_
    have hH21 : Has E w19 [R] := (hH20.front 1 rfl).first 1 rfl
    exact ⟨rfl, hH21⟩
set_option maxHeartbeats 4000000 in
theorem holds_nil {E w : World} {R : List Hp}  {o : Int}  (hH : Has E w [R]) :
    Calls Try.prog 43 #[(.pointer none), (.int .i64 o)] w fun e w' => e = .returned (.slice none 0 0) ∧ Has E w' [R] := by
  refine c_enter (args := [(.pointer none), (.int .i64 o)]) Try.func43 rfl Try.ntmps43 (by simp) ?_
  refine wp_seq_k fun K1 hK1 => ?_
  refine c_region ?_
  refine s_op (o_assign (v := (.slice none 0 0)) rfl ?_)
  refine s_nil ?_
  refine t_norm (hK1 _ _ ?_)
  refine wp_seq_k fun K2 hK2 => ?_
  refine c_region ?_
  refine s_op (o_assign (v := (.slice none 0 0)) rfl ?_)
  refine s_nil ?_
  refine t_norm (hK2 _ _ ?_)
  refine wp_seq_k fun K3 hK3 => ?_
  refine wp_seq_k fun K4 hK4 => ?_
  refine c_region ?_
  refine s_op (o_move (v := (.pointer none)) rfl ?_)
  refine s_op (o_callf (vs := #[(.pointer none)]) ca95 rfl (args1 rfl) (names_nil hH.all ) ?_)
  rintro _ w7 ⟨rfl, hX5⟩
  refine ⟨_, rfl, ?_⟩
  have hH6 := hX5.of_all
  refine s_op (o_lenS Try.underlying53 rfl (sl_nil (L := []) 1) ?_)
  refine s_op (o_move (v := (.int .i64 0)) rfl ?_)
  refine s_nil ?_
  refine t_norm (hK4 _ _ ?_)
  refine wp_block ?_
  let I9 : Nat → (Nat → Value) → World → Prop := fun n__ r__ w__ => ∃ (k : Nat), n__ = 0 - k ∧ Has E w__ [R] ∧ (k ≤ 0) ∧ r__ 0 = (.pointer none) ∧ r__ 1 = (.int .i64 o) ∧ r__ 4 = (.slice none 0 0) ∧ r__ 5 = (.slice none 0 0) ∧ r__ 11 = (.slice none 0 0) ∧ r__ 12 = (.int .i64 ((0 : Nat) : Int)) ∧ r__ 13 = (.int .i64 (k : Int))
  refine c_loop I9 _ ⟨0, rfl, hH6, Nat.le_refl _, rfl, rfl, rfl, rfl, rfl, rfl, rfl⟩ ?_
  rintro n_ r12 w10 ⟨k, rfl, hH11, hk, e8_0, e8_1, e8_4, e8_5, e8_11, e8_12, e8_13⟩
  refine wp_seq_k fun K13 hK13 => ?_
  refine c_region ?_
  refine s_op (o_lss (a := (k : Int)) (b := ((0 : Nat) : Int)) e8_13 e8_12 ?_)
  refine s_nil ?_
  refine t_norm (hK13 _ _ ?_)
  refine wp_seq_k fun K14 hK14 => ?_
  refine c_cond rfl (fun h15 => ?_) (fun h15 => ?_)
  · -- (k : Int) < ((0 : Nat) : Int)
    exfalso; first | omega | (simp at h15; omega)
  · -- not: (k : Int) < ((0 : Nat) : Int)
    refine wp_exit ?_
    refine t_exit (t_exit (x_in (?_)))
    refine t_norm (hK3 _ _ ?_)
    refine wp_seq_k fun K16 hK16 => ?_
    refine c_region ?_
    refine s_op (o_move (v := (.slice none 0 0)) e8_5 ?_)
    refine s_op (o_assign (v := (.slice none 0 0)) rfl ?_)
    refine s_nil ?_
    refine t_norm (hK16 _ _ ?_)
    refine wp_ret ?_
    refine c_ret1 Try.results43  (v := (.slice none 0 0)) rfl ?_
    exact ⟨rfl, hH11⟩
set_option maxHeartbeats 4000000 in
theorem line_nil {E w : World} {R : List Hp}  {key : Bs}  (hH : Has E w [R]) :
    Calls Try.prog 48 #[(.pointer none), (S key)] w fun e w' => e = .returned (.slice none 0 0) ∧ Has E w' [R] := by
  refine c_enter (args := [(.pointer none), (S key)]) Try.func48 rfl Try.ntmps48 (by simp) ?_
  refine wp_seq_k fun K1 hK1 => ?_
  refine c_region ?_
  refine s_op (o_assign (v := (.slice none 0 0)) rfl ?_)
  refine s_nil ?_
  refine t_norm (hK1 _ _ ?_)
  refine wp_seq_k fun K2 hK2 => ?_
  refine c_region ?_
  refine s_op (o_assign (v := (.slice none 0 0)) rfl ?_)
  refine s_nil ?_
  refine t_norm (hK2 _ _ ?_)
  refine wp_seq_k fun K3 hK3 => ?_
  refine wp_seq_k fun K4 hK4 => ?_
  refine c_region ?_
  refine s_op (o_move (v := (.pointer none)) rfl ?_)
  refine s_op (o_pnnil (p := none) Try.underlying68 rfl rfl ?_)
  refine s_op (o_move (v := (.bool false)) rfl ?_)
  refine s_off (b' := false) 10 rfl rfl rfl ?_
  refine s_off (b' := false) 10 rfl rfl rfl ?_
  refine s_off (b' := false) 10 rfl rfl rfl ?_
  refine s_off (b' := false) 10 rfl rfl rfl ?_
  refine s_off (b' := false) 10 rfl rfl rfl ?_
  refine s_off (b' := false) 10 rfl rfl rfl ?_
  refine s_off (b' := false) 10 rfl rfl rfl ?_
  refine s_op (o_pick_f (u := (.bool false)) rfl rfl ?_)
  refine s_nil ?_
  refine t_norm (hK4 _ _ ?_)
  refine c_false rfl rfl ?_
  refine wp_skip ?_
  refine t_norm (hK3 _ _ ?_)
  refine wp_seq_k fun K5 hK5 => ?_
  refine c_region ?_
  refine s_op (o_move (v := (.slice none 0 0)) rfl ?_)
  refine s_op (o_assign (v := (.slice none 0 0)) rfl ?_)
  refine s_nil ?_
  refine t_norm (hK5 _ _ ?_)
  refine wp_ret ?_
  refine c_ret1 Try.results48  (v := (.slice none 0 0)) rfl ?_
  exact ⟨rfl, hH⟩
set_option maxHeartbeats 4000000 in
theorem edges_nil {E w : World} {R : List Hp}   (hH : Has E w [R]) :
    Calls Try.prog 45 #[(.pointer none)] w fun e w' => e = .returned (.slice none 0 0) ∧ Has E w' [R] := by
  refine c_enter (args := [(.pointer none)]) Try.func45 rfl Try.ntmps45 (by simp) ?_
  refine wp_seq_k fun K1 hK1 => ?_
  refine c_region ?_
  refine s_op (o_assign (v := (.slice none 0 0)) rfl ?_)
  refine s_nil ?_
  refine t_norm (hK1 _ _ ?_)
  refine wp_seq_k fun K2 hK2 => ?_
  refine c_region ?_
  refine s_op (o_assign (v := (.slice none 0 0)) rfl ?_)
  refine s_nil ?_
  refine t_norm (hK2 _ _ ?_)
  refine wp_seq_k fun K3 hK3 => ?_
  refine wp_seq_k fun K4 hK4 => ?_
  refine c_region ?_
  refine s_op (o_move (v := (.pointer none)) rfl ?_)
  refine s_op (o_callf (vs := #[(.pointer none)]) ca95 rfl (args1 rfl) (names_nil hH.all ) ?_)
  rintro _ w7 ⟨rfl, hX5⟩
  refine ⟨_, rfl, ?_⟩
  have hH6 := hX5.of_all
  refine s_op (o_lenS Try.underlying53 rfl (sl_nil (L := []) 1) ?_)
  refine s_op (o_move (v := (.int .i64 0)) rfl ?_)
  refine s_nil ?_
  refine t_norm (hK4 _ _ ?_)
  refine wp_block ?_
  let I9 : Nat → (Nat → Value) → World → Prop := fun n__ r__ w__ => ∃ (k : Nat), n__ = 0 - k ∧ Has E w__ [R] ∧ (k ≤ 0) ∧ r__ 0 = (.pointer none) ∧ r__ 2 = (.slice none 0 0) ∧ r__ 3 = (.slice none 0 0) ∧ r__ 12 = (.slice none 0 0) ∧ r__ 13 = (.int .i64 ((0 : Nat) : Int)) ∧ r__ 14 = (.int .i64 (k : Int))
  refine c_loop I9 _ ⟨0, rfl, hH6, Nat.le_refl _, rfl, rfl, rfl, rfl, rfl, rfl⟩ ?_
  rintro n_ r12 w10 ⟨k, rfl, hH11, hk, e8_0, e8_2, e8_3, e8_12, e8_13, e8_14⟩
  refine wp_seq_k fun K13 hK13 => ?_
  refine c_region ?_
  refine s_op (o_lss (a := (k : Int)) (b := ((0 : Nat) : Int)) e8_14 e8_13 ?_)
  refine s_nil ?_
  refine t_norm (hK13 _ _ ?_)
  refine wp_seq_k fun K14 hK14 => ?_
  refine c_cond rfl (fun h15 => ?_) (fun h15 => ?_)
  · -- (k : Int) < ((0 : Nat) : Int)
    exfalso; first | omega | (simp at h15; omega)
  · -- not: (k : Int) < ((0 : Nat) : Int)
    refine wp_exit ?_
    refine t_exit (t_exit (x_in (?_)))
    refine t_norm (hK3 _ _ ?_)
    refine wp_seq_k fun K16 hK16 => ?_
    refine c_region ?_
    refine s_op (o_move (v := (.slice none 0 0)) e8_3 ?_)
    refine s_op (o_assign (v := (.slice none 0 0)) rfl ?_)
    refine s_nil ?_
    refine t_norm (hK16 _ _ ?_)
    refine wp_ret ?_
    refine c_ret1 Try.results45  (v := (.slice none 0 0)) rfl ?_
    exact ⟨rfl, hH11⟩
set_option maxHeartbeats 4000000 in
theorem leave_nil {E w : World} {R : List Hp}  {all : Bool} {v_ow : Value} {ow : List Int}  (hH : Has E w [R]) (h_ow : Sl R 1 v_ow ow.length (ow.map iV)) :
    Calls Try.prog 94 #[(.pointer none), (.bool all), v_ow] w fun e w' => e = .returned (.slice none 0 0) ∧ Has E w' [R] := by
  refine c_enter (args := [(.pointer none), (.bool all), v_ow]) Try.func94 rfl Try.ntmps94 (by simp) ?_
  refine wp_seq_k fun K1 hK1 => ?_
  refine c_region ?_
  refine s_op (o_box (cs := #[v_ow]) rfl (cells_one h_ow.one) hH fun b2 w3 hH4 => ?_)
  refine s_op (o_assign (v := (.slice none 0 0)) rfl ?_)
  refine s_nil ?_
  refine t_norm (hK1 _ _ ?_)
  refine wp_seq_k fun K5 hK5 => ?_
  refine c_region ?_
  refine s_op (o_makeFunc (vs := #[(.pointer (some ⟨b2, 0, none⟩))]) (cap1 rfl) ?_)
  refine s_op (o_assign (v := (.func (.func 130) #[] #[(.pointer (some ⟨b2, 0, none⟩))])) rfl ?_)
  refine s_nil ?_
  refine t_norm (hK5 _ _ ?_)
  refine wp_seq_k fun K6 hK6 => ?_
  refine c_region ?_
  refine s_op (o_assign (v := (.slice none 0 0)) rfl ?_)
  refine s_nil ?_
  refine t_norm (hK6 _ _ ?_)
  refine wp_seq_k fun K7 hK7 => ?_
  refine wp_seq_k fun K8 hK8 => ?_
  refine c_region ?_
  refine s_op (o_move (v := (.pointer none)) rfl ?_)
  refine s_op (o_callf (vs := #[(.pointer none)]) ca95 rfl (args1 rfl) (names_nil hH4.all ) ?_)
  rintro _ w11 ⟨rfl, hX9⟩
  refine ⟨_, rfl, ?_⟩
  have hH10 := hX9.of_all
  refine s_op (o_lenS Try.underlying53 rfl (sl_nil (L := []) 1) ?_)
  refine s_op (o_move (v := (.int .i64 0)) rfl ?_)
  refine s_nil ?_
  refine t_norm (hK8 _ _ ?_)
  refine wp_block ?_
  let I13 : Nat → (Nat → Value) → World → Prop := fun n__ r__ w__ => ∃ (k : Nat), n__ = 0 - k ∧ Has E w__ [[Hp.one b2 (.cells #[v_ow] 54 (0, 0))], R] ∧ (k ≤ 0) ∧ r__ 0 = (.pointer none) ∧ r__ 1 = (.bool all) ∧ r__ 2 = v_ow ∧ r__ 5 = (.pointer (some ⟨b2, 0, none⟩)) ∧ r__ 6 = (.slice none 0 0) ∧ r__ 7 = (.func (.func 130) #[] #[(.pointer (some ⟨b2, 0, none⟩))]) ∧ r__ 8 = (.slice none 0 0) ∧ r__ 14 = (.slice none 0 0) ∧ r__ 15 = (.int .i64 ((0 : Nat) : Int)) ∧ r__ 16 = (.int .i64 (k : Int))
  refine c_loop I13 _ ⟨0, rfl, hH10, Nat.le_refl _, rfl, rfl, rfl, rfl, rfl, rfl, rfl, rfl, rfl, rfl⟩ ?_
  rintro n_ r16 w14 ⟨k, rfl, hH15, hk, e12_0, e12_1, e12_2, e12_5, e12_6, e12_7, e12_8, e12_14, e12_15, e12_16⟩
  refine wp_seq_k fun K17 hK17 => ?_
  refine c_region ?_
  refine s_op (o_lss (a := (k : Int)) (b := ((0 : Nat) : Int)) e12_16 e12_15 ?_)
  refine s_nil ?_
  refine t_norm (hK17 _ _ ?_)
  refine wp_seq_k fun K18 hK18 => ?_
  refine c_cond rfl (fun h19 => ?_) (fun h19 => ?_)
  · -- (k : Int) < ((0 : Nat) : Int)
    exfalso; first | omega | (simp at h19; omega)
  · -- not: (k : Int) < ((0 : Nat) : Int)
    refine wp_exit ?_
    refine t_exit (t_exit (x_in (?_)))
    refine t_norm (hK7 _ _ ?_)
    refine wp_seq_k fun K20 hK20 => ?_
    refine c_region ?_
    refine s_op (o_move (v := (.slice none 0 0)) e12_8 ?_)
    refine s_op (o_assign (v := (.slice none 0 0)) rfl ?_)
    refine s_nil ?_
    refine t_norm (hK20 _ _ ?_)
    refine wp_ret ?_
    refine c_ret1 Try.results94  (v := (.slice none 0 0)) rfl ?_
    have hH21 : Has E w14 [R] := (hH15.front 1 rfl).first 1 rfl
    exact ⟨rfl, hH21⟩
set_option maxHeartbeats 4000000 in
theorem quit_nil {E w : World} {R : List Hp}  {o : Int}  (hH : Has E w [R]) :
    Calls Try.prog 40 #[(.pointer none), (.int .i64 o)] w fun e w' => e = .returned (.slice none 0 0) ∧ Has E w' [R] := by
  refine c_enter (args := [(.pointer none), (.int .i64 o)]) Try.func40 rfl Try.ntmps40 (by simp) ?_
  refine wp_seq_k fun K1 hK1 => ?_
  refine c_region ?_
  refine s_op (o_assign (v := (.slice none 0 0)) rfl ?_)
  refine s_nil ?_
  refine t_norm (hK1 _ _ ?_)
  refine wp_seq_k fun K2 hK2 => ?_
  refine c_region ?_
  refine s_op (o_move (v := (.pointer none)) rfl ?_)
  refine s_op (o_move (v := (.int .i64 o)) rfl ?_)
  refine s_op (o_buildSlice (ps := #[(0, (.int .i64 o))]) (cells := #[(.int .i64 o)]) Try.underlying54 ti3 (by decide) (parts1 rfl) (by kernel_rfl) hH fun b3 w4 hH5 => ?_)
  refine s_op (o_callf (vs := #[(.pointer none), (.bool false), (.slice (some ⟨b3, 0, none⟩) 1 1)]) ca94 rfl (args3 rfl rfl rfl) (leave_nil (all := false) (ow := [o]) hH5.all ((sl_lit (f := iV) (l := [o]) rfl rfl (by simp)).mono (seg_sub 0 rfl))) ?_)
  rintro _ w8 ⟨rfl, hX6⟩
  refine ⟨_, rfl, ?_⟩
  have hH7 := hX6.of_all
  refine s_op (o_assign (v := (.slice none 0 0)) rfl ?_)
  refine s_nil ?_
  refine t_norm (hK2 _ _ ?_)
  refine wp_ret ?_
  refine c_ret1 Try.results40  (v := (.slice none 0 0)) rfl ?_
  have hH9 : Has E w8 [R] := (hH7.front 1 rfl).first 1 rfl
  exact ⟨rfl, hH9⟩
set_option maxHeartbeats 4000000 in
theorem freet_nil {E w : World} {R : List Hp}  {v_ow : Value} {ow : List Int}  (hH : Has E w [R]) (h_ow : Sl R 1 v_ow ow.length (ow.map iV)) :
    Calls Try.prog 41 #[(.pointer none), v_ow] w fun e w' => e = .returned (.slice none 0 0) ∧ Has E w' [R] := by
  refine c_enter (args := [(.pointer none), v_ow]) Try.func41 rfl Try.ntmps41 (by simp) ?_
  refine wp_seq_k fun K1 hK1 => ?_
  refine c_region ?_
  refine s_op (o_assign (v := (.slice none 0 0)) rfl ?_)
  refine s_nil ?_
  refine t_norm (hK1 _ _ ?_)
  refine wp_seq_k fun K2 hK2 => ?_
  refine c_region ?_
  refine s_op (o_move (v := (.pointer none)) rfl ?_)
  refine s_op (o_move (v := v_ow) rfl ?_)
  refine s_op (o_callf (vs := #[(.pointer none), (.bool true), v_ow]) ca94 rfl (args3 rfl rfl rfl) (leave_nil (all := true) (ow := ow) hH.all (h_ow.mono (seg_sub 0 rfl))) ?_)
  rintro _ w5 ⟨rfl, hX3⟩
  refine ⟨_, rfl, ?_⟩
  have hH4 := hX3.of_all
  refine s_op (o_assign (v := (.slice none 0 0)) rfl ?_)
  refine s_nil ?_
  refine t_norm (hK2 _ _ ?_)
  refine wp_ret ?_
  refine c_ret1 Try.results41  (v := (.slice none 0 0)) rfl ?_
  exact ⟨rfl, hH4⟩
set_option maxHeartbeats 4000000 in
theorem ask_nil {E w : World} {R : List Hp}  {o : Int} {key : Bs} {wr : Bool}  (hH : Has E w [R]) :
    Calls Try.prog 39 #[(.pointer none), (.int .i64 o), (.agg #[(S key), (.bool wr)])] w fun e w' => e = .returned (.int .i64 1) ∧ Has E w' [R] := by
  refine c_enter (args := [(.pointer none), (.int .i64 o), (.agg #[(S key), (.bool wr)])]) Try.func39 rfl Try.ntmps39 (by simp) ?_
  refine wp_seq_k fun K1 hK1 => ?_
  refine c_region ?_
  refine s_op (o_box (cs := #[(S key), (.bool wr)]) rfl rfl hH fun b2 w3 hH4 => ?_)
  refine s_op (o_assign (v := (.int .i64 0)) rfl ?_)
  refine s_nil ?_
  refine t_norm (hK1 _ _ ?_)
  refine wp_seq_k fun K5 hK5 => ?_
  refine wp_seq_k fun K6 hK6 => ?_
  refine c_region ?_
  refine s_op (o_move (v := (.pointer none)) rfl ?_)
  refine s_op (o_pnil (p := none) Try.underlying68 rfl rfl ?_)
  refine s_op (o_move (v := (.bool true)) rfl ?_)
  refine s_off (b' := true) 14 rfl rfl rfl ?_
  refine s_off (b' := true) 14 rfl rfl rfl ?_
  refine s_op (o_pick_t (u := (.bool true)) rfl rfl ?_)
  refine s_nil ?_
  refine t_norm (hK6 _ _ ?_)
  refine c_true rfl rfl ?_
  refine wp_seq_k fun K7 hK7 => ?_
  refine c_region ?_
  refine s_op (o_assign (v := (.int .i64 1)) rfl ?_)
  refine s_nil ?_
  refine t_norm (hK7 _ _ ?_)
  refine wp_ret ?_
  refine t_ret (c_ret1 Try.results39  (v := (.int .i64 1)) rfl ?_)
  have hH8 : Has E w3 [R] := (hH4.front 1 rfl).first 1 rfl
  exact ⟨rfl, hH8⟩
end Go.Q
namespace Go.Q
theorem S_beq' (a b : List UInt8) : ((⟨a.toArray⟩ : ByteArray).toList == (⟨b.toArray⟩ : ByteArray).toList) = decide (a = b) := by
  rw [bytes_toList, bytes_toList]
  by_cases h : a = b
  · subst h; simp
  · rw [decide_eq_false h]; simpa using h
theorem int_beq' (a b : Int) : (a == b) = decide (a = b) := by
  by_cases h : a = b
  · subst h; simp
  · rw [decide_eq_false h]; simpa using h
theorem bool_beq' (a b : Bool) : (a == b) = decide (a = b) := by cases a <;> cases b <;> rfl
theorem part1 {P : Program} {t : TypeId} {d : TypeDesc} (ht : P.underlying t = some d) (hd : aggB d = false) {xs : Array Value} {o : Nat} {v : Value} (hv : xs[o]? = some v) (w : World) : (part t xs o).run P w = .ok v w := by
  unfold part
  rw [Sem.run_bind, run_isAgg ht, hd]
  simp [hv]
theorem partN {P : Program} {t : TypeId} {d : TypeDesc} {z : Value} {sz by_ : Nat} (ht : P.underlying t = some d) (hd : aggB d = true) (hi : TI P t z sz by_) {xs ys : Array Value} {o : Nat} (hv : xs.extract o (o + sz) = ys) (w : World) : (part t xs o).run P w = .ok (.agg ys) w := by
  unfold part
  rw [Sem.run_bind, run_isAgg ht, hd]
  simp only [Result.andThen_ok, if_true, Sem.run_bind, hi.size, Sem.run_pure, hv]
theorem eqC_nil {P : Program} {d : Nat} {xs ys : Array Value} {w : World} : (Op.eqFields d xs ys []).run P w = .ok true w := rfl
theorem eqC_cons {P : Program} {d : Nat} {xs ys : Array Value} {f : Field} {fs : List Field} {a b : Value} {r r' : Bool} {w : World} {ft fo : Nat} (h : (f.type, f.offset, f.name == "_") = (ft, fo, false)) (ha : (part ft xs fo).run P w = .ok a w) (hb : (part ft ys fo).run P w = .ok b w)
    (he : (Op.equalIn d ft a b).run P w = .ok r w) (hk : (Op.eqFields d xs ys fs).run P w = .ok r' w) : (Op.eqFields d xs ys (f :: fs)).run P w = .ok (r && r') w := by
  simp only [Prod.mk.injEq] at h
  obtain ⟨rfl, rfl, hn⟩ := h
  have hn' : f.name ≠ "_" := by simpa using hn
  rw [Op.eqFields, if_pos hn']
  simp only [Sem.run_bind, ha, hb, he, Result.andThen_ok]
  cases r
  · simp
  · simpa using hk
theorem eqC_fields {P : Program} {d : Nat} {xs ys : Array Value} {r : Bool} {w : World} {l : List Field} {m : List (Nat × Nat × Bool)} (hf : l.map (fun f => (f.type, f.offset, f.name == "_")) = m) (h : ∀ l : List Field, l.map (fun f => (f.type, f.offset, f.name == "_")) = m → (Op.eqFields d xs ys l).run P w = .ok r w) :
    (Op.eqFields d xs ys l).run P w = .ok r w := h l hf
theorem eq_int {P : Program} {t : TypeId} {k' : IntKind} (h : P.underlying t = some (.int k')) (d : Nat) (k : IntKind) (a b : Int) (w : World) : (Op.equalIn (d + 1) t (.int k a) (.int k b)).run P w = .ok (decide (a = b)) w := by rw [run_equalIn_int w d t _ _ _ _ h, int_beq']
theorem eq_bool {P : Program} {t : TypeId} (h : P.underlying t = some .bool) (d : Nat) (a b : Bool) (w : World) : (Op.equalIn (d + 1) t (.bool a) (.bool b)).run P w = .ok (decide (a = b)) w := by rw [run_equalIn_bool' w d t _ _ h, bool_beq']
theorem eq_str {P : Program} {t : TypeId} (h : P.underlying t = some .string) (d : Nat) (a b : List UInt8) (w : World) : (Op.equalIn (d + 1) t (S a) (S b)).run P w = .ok (decide (a = b)) w := by
  unfold S; rw [run_equalIn_string w d t _ _ h, S_beq']
end Go.Q
namespace Go.Q
open Go.Proofs
set_option linter.unusedVariables false
set_option maxRecDepth 100000
attribute [local irreducible] wpList OK Code.wp
def eqv74 (a0 : List UInt8) (a1 : Bool) (b0 : List UInt8) (b1 : Bool) : Bool := (decide (a0 = b0) && (decide (a1 = b1) && true))
theorem eqT74 (d : Nat) (w : World) (a0 : List UInt8) (a1 : Bool) (b0 : List UInt8) (b1 : Bool) : (Op.equalIn (d + 2) 74 (.agg #[(S a0), (.bool a1)]) (.agg #[(S b0), (.bool b1)])).run Try.prog w = .ok (eqv74 a0 a1 b0 b1) w := by
  rw [run_equalIn_struct w _ 74 _ _ (by kernel_rfl) (by kernel_rfl)]
  refine eqC_fields (m := [(9, 0, false), (4, 1, false)]) (by kernel_rfl) fun l hl => ?_
  obtain ⟨f0, l0, rfl, h0, hl⟩ := List.map_eq_cons_iff.1 hl
  refine eqC_cons (ft := 9) (fo := 0) (a := (S a0)) (b := (S b0)) h0 (part1 Try.underlying9 rfl (by kernel_rfl) w) (part1 Try.underlying9 rfl (by kernel_rfl) w) (eq_str Try.underlying9 (d + 0) _ _ w) ?_
  obtain ⟨f1, l1, rfl, h1, hl⟩ := List.map_eq_cons_iff.1 hl
  refine eqC_cons (ft := 4) (fo := 1) (a := (.bool a1)) (b := (.bool b1)) h1 (part1 Try.underlying4 rfl (by kernel_rfl) w) (part1 Try.underlying4 rfl (by kernel_rfl) w) (eq_bool Try.underlying4 (d + 0) _ _ w) ?_
  obtain rfl := List.map_eq_nil_iff.1 hl
  exact eqC_nil
theorem o_eql74 {ρ : Operand → Value} {w : World} {K : Value → World → Prop} {dst : Option Tmp} {T : TypeId} {pos : String} {after : Array Edge} {g : Option (Nat × Bool)} {u : TypeId} {x y : Operand} (a0 : List UInt8) (a1 : Bool) (b0 : List UInt8) (b1 : Bool) (hx : ρ x = .agg #[(S a0), (.bool a1)]) (hy : ρ y = .agg #[(S b0), (.bool b1)]) (h : K (.bool ((eqv74 a0 a1 b0 b1))) w) :
    OK Try.prog ⟨dst, .binOp .eql 74 x y u, T, pos, after, g⟩ ρ w K :=
  o_eqx hx hy (run_eqGuard_agg w _ _ _ _ _ _ (by kernel_rfl)) rfl (eqT74 (9998) w a0 a1 b0 b1) h
theorem o_neq74 {ρ : Operand → Value} {w : World} {K : Value → World → Prop} {dst : Option Tmp} {T : TypeId} {pos : String} {after : Array Edge} {g : Option (Nat × Bool)} {u : TypeId} {x y : Operand} (a0 : List UInt8) (a1 : Bool) (b0 : List UInt8) (b1 : Bool) (hx : ρ x = .agg #[(S a0), (.bool a1)]) (hy : ρ y = .agg #[(S b0), (.bool b1)]) (h : K (.bool (!(eqv74 a0 a1 b0 b1))) w) :
    OK Try.prog ⟨dst, .binOp .neq 74 x y u, T, pos, after, g⟩ ρ w K :=
  o_nex hx hy (run_eqGuard_agg w _ _ _ _ _ _ (by kernel_rfl)) rfl (eqT74 (9998) w a0 a1 b0 b1) h
theorem eqv74_iff (a0 : List UInt8) (a1 : Bool) (b0 : List UInt8) (b1 : Bool) : eqv74 a0 a1 b0 b1 = true ↔ a0 = b0 ∧ a1 = b1 := by
  unfold eqv74; simp
def eqv95 (a0 : Int) (a1 : Int) (b0 : Int) (b1 : Int) : Bool := (decide (a0 = b0) && (decide (a1 = b1) && true))
theorem eqT95 (d : Nat) (w : World) (a0 : Int) (a1 : Int) (b0 : Int) (b1 : Int) : (Op.equalIn (d + 2) 95 (.agg #[(.int .i64 a0), (.int .i64 a1)]) (.agg #[(.int .i64 b0), (.int .i64 b1)])).run Try.prog w = .ok (eqv95 a0 a1 b0 b1) w := by
  rw [run_equalIn_struct w _ 95 _ _ (by kernel_rfl) (by kernel_rfl)]
  refine eqC_fields (m := [(3, 0, false), (3, 1, false)]) (by kernel_rfl) fun l hl => ?_
  obtain ⟨f0, l0, rfl, h0, hl⟩ := List.map_eq_cons_iff.1 hl
  refine eqC_cons (ft := 3) (fo := 0) (a := (.int .i64 a0)) (b := (.int .i64 b0)) h0 (part1 Try.underlying3 rfl (by kernel_rfl) w) (part1 Try.underlying3 rfl (by kernel_rfl) w) (eq_int Try.underlying3 (d + 0) _ _ _ w) ?_
  obtain ⟨f1, l1, rfl, h1, hl⟩ := List.map_eq_cons_iff.1 hl
  refine eqC_cons (ft := 3) (fo := 1) (a := (.int .i64 a1)) (b := (.int .i64 b1)) h1 (part1 Try.underlying3 rfl (by kernel_rfl) w) (part1 Try.underlying3 rfl (by kernel_rfl) w) (eq_int Try.underlying3 (d + 0) _ _ _ w) ?_
  obtain rfl := List.map_eq_nil_iff.1 hl
  exact eqC_nil
theorem o_eql95 {ρ : Operand → Value} {w : World} {K : Value → World → Prop} {dst : Option Tmp} {T : TypeId} {pos : String} {after : Array Edge} {g : Option (Nat × Bool)} {u : TypeId} {x y : Operand} (a0 : Int) (a1 : Int) (b0 : Int) (b1 : Int) (hx : ρ x = .agg #[(.int .i64 a0), (.int .i64 a1)]) (hy : ρ y = .agg #[(.int .i64 b0), (.int .i64 b1)]) (h : K (.bool ((eqv95 a0 a1 b0 b1))) w) :
    OK Try.prog ⟨dst, .binOp .eql 95 x y u, T, pos, after, g⟩ ρ w K :=
  o_eqx hx hy (run_eqGuard_agg w _ _ _ _ _ _ (by kernel_rfl)) rfl (eqT95 (9998) w a0 a1 b0 b1) h
theorem o_neq95 {ρ : Operand → Value} {w : World} {K : Value → World → Prop} {dst : Option Tmp} {T : TypeId} {pos : String} {after : Array Edge} {g : Option (Nat × Bool)} {u : TypeId} {x y : Operand} (a0 : Int) (a1 : Int) (b0 : Int) (b1 : Int) (hx : ρ x = .agg #[(.int .i64 a0), (.int .i64 a1)]) (hy : ρ y = .agg #[(.int .i64 b0), (.int .i64 b1)]) (h : K (.bool (!(eqv95 a0 a1 b0 b1))) w) :
    OK Try.prog ⟨dst, .binOp .neq 95 x y u, T, pos, after, g⟩ ρ w K :=
  o_nex hx hy (run_eqGuard_agg w _ _ _ _ _ _ (by kernel_rfl)) rfl (eqT95 (9998) w a0 a1 b0 b1) h
theorem eqv95_iff (a0 : Int) (a1 : Int) (b0 : Int) (b1 : Int) : eqv95 a0 a1 b0 b1 = true ↔ a0 = b0 ∧ a1 = b1 := by
  unfold eqv95; simp
end Go.Q
namespace Go.Q
open Go.Proofs
set_option linter.unusedVariables false
set_option maxRecDepth 100000
attribute [local irreducible] wpList OK Code.wp
set_option maxHeartbeats 4000000 in
theorem LockNone_c {E w : World} {R : List Hp} {owner : Int} {key : Bs}  (hH : Has E w [R]) :
    Calls Try.prog 9 #[(.int .i64 owner), (S key)] w fun e w' => e = .returned (.bool true) ∧ Has E w' [R] := by
  refine c_enter (args := [(.int .i64 owner), (S key)]) Try.func9 rfl Try.ntmps9 (by simp) ?_
  refine wp_seq_k fun K1 hK1 => ?_
  refine c_region ?_
  refine s_op (o_assign (v := (.bool false)) rfl ?_)
  refine s_nil ?_
  refine t_norm (hK1 _ _ ?_)
  refine wp_seq_k fun K2 hK2 => ?_
  refine wp_seq_k fun K3 hK3 => ?_
  refine c_region ?_
  refine s_op (o_move (v := (S key)) rfl ?_)
  refine s_op (o_slen Try.underlying9 rfl ?_)
  refine s_op (o_gtr (a := (key.length : Int)) (b := 100) rfl rfl ?_)
  refine s_nil ?_
  refine t_norm (hK3 _ _ ?_)
  refine c_cond rfl (fun h4 => ?_) (fun h4 => ?_)
  · -- 100 < (key.length : Int)
    refine wp_seq_k fun K5 hK5 => ?_
    refine c_region ?_
    refine s_op (o_callf (vs := #[]) ca37 rfl (args0) (awake14_c hH.all ) ?_)
    rintro _ w8 ⟨rfl, hX6⟩
    refine ⟨_, rfl, ?_⟩
    have hH7 := hX6.of_all
    refine s_op (o_assign (v := (.bool true)) rfl ?_)
    refine s_nil ?_
    refine t_norm (hK5 _ _ ?_)
    refine wp_ret ?_
    refine t_ret (c_ret1 Try.results9  (v := (.bool true)) rfl ?_)
    exact ⟨rfl, hH7⟩
  · -- not: 100 < (key.length : Int)
    refine wp_skip ?_
    refine t_norm (hK2 _ _ ?_)
    refine wp_seq_k fun K9 hK9 => ?_
    refine c_region ?_
    refine s_op (o_assign (v := (.pointer none)) rfl ?_)
    refine s_nil ?_
    refine t_norm (hK9 _ _ ?_)
    refine wp_seq_k fun K10 hK10 => ?_
    refine c_region ?_
    refine s_op (o_move (v := (.pointer none)) rfl ?_)
    refine s_op (o_move (v := (.int .i64 owner)) rfl ?_)
    refine s_op (o_callf (vs := #[(.pointer none), (.int .i64 owner)]) ca44 rfl (args2 rfl rfl) (waits_nil (o := owner) hH.all ) ?_)
    rintro _ w13 ⟨rfl, hX11⟩
    refine ⟨_, rfl, ?_⟩
    have hH12 := hX11.of_all
    refine s_op (o_move (v := (.tuple #[(.agg #[(S ([] : List UInt8)), (.bool false)]), (.bool false)])) rfl ?_)
    refine s_op (o_extract (v := (.agg #[(S ([] : List UInt8)), (.bool false)])) rfl rfl ?_)
    refine s_op (o_extract (v := (.bool false)) rfl rfl ?_)
    refine s_op (o_alloc (cs := #[(S ([] : List UInt8)), (.bool false)]) ti74 rfl hH12 fun b14 w15 hH16 => ?_)
    refine s_eff (o_storeN (vs := [(S ([] : List UInt8)), (.bool false)]) (c' := #[(S ([] : List UInt8)), (.bool false)]) ti74 rfl rfl rfl rfl (by intro u hu; simp only [List.mem_cons, List.not_mem_nil, or_false] at hu; rcases hu with rfl | rfl <;> first | rfl) (by simp) (by kernel_rfl) (hH16.front 0 rfl) fun w17 hH18 => ?_)
    refine s_op (o_assign (v := (.bool false)) rfl ?_)
    refine s_nil ?_
    refine t_norm (hK10 _ _ ?_)
    refine wp_seq_k fun K19 hK19 => ?_
    refine c_region ?_
    refine s_op (o_move (v := (.pointer none)) rfl ?_)
    refine s_op (o_move (v := (.int .i64 owner)) rfl ?_)
    refine s_op (o_move (v := (S key)) rfl ?_)
    refine s_op (o_sight (v := (.agg #[(S key), (.bool false)])) (fun _ => by kernel_rfl) ?_)
    refine s_op (o_callf (vs := #[(.pointer none), (.int .i64 owner), (.agg #[(S key), (.bool false)])]) ca39 rfl (args3 rfl rfl rfl) (ask_nil (o := owner) (key := key) (wr := false) hH18.all ) ?_)
    rintro _ w22 ⟨rfl, hX20⟩
    refine ⟨_, rfl, ?_⟩
    have hH21 := hX20.of_all
    refine s_op (o_eql (a := 1) (b := 1) rfl rfl ?_)
    refine s_op (o_move (v := (.bool (decide ((1 : Int) = (1 : Int))))) rfl ?_)
    by_cases h23 : (1 : Int) = (1 : Int)
    · -- (1 : Int) = (1 : Int)
      refine s_on 24 rfl (congrArg Value.bool (decide_eq_true h23)) (o_move (v := (.pointer none)) rfl ?_)
      refine s_on 24 rfl (congrArg Value.bool (decide_eq_true h23)) (o_move (v := (.int .i64 owner)) rfl ?_)
      refine s_on 24 rfl (congrArg Value.bool (decide_eq_true h23)) (o_callf (vs := #[(.pointer none), (.int .i64 owner)]) ca40 rfl (args2 rfl rfl) (quit_nil (o := owner) hH21.all ) ?_)
      rintro _ w26 ⟨rfl, hX24⟩
      refine ⟨_, rfl, ?_⟩
      have hH25 := hX24.of_all
      refine s_on 24 rfl (congrArg Value.bool (decide_eq_true h23)) (o_lenS Try.underlying54 rfl (sl_nil (L := []) 1) ?_)
      refine s_on 24 rfl (congrArg Value.bool (decide_eq_true h23)) (o_eql (a := ((0 : Nat) : Int)) (b := 0) rfl rfl ?_)
      refine s_op (o_pick_t (u := (.bool (decide (((0 : Nat) : Int) = 0)))) ((rfl : _ = _).trans (congrArg Value.bool (decide_eq_true h23))) rfl ?_)
      refine s_op (o_move (v := (.bool (decide (((0 : Nat) : Int) = 0)))) rfl ?_)
      by_cases h27 : ((0 : Nat) : Int) = 0
      · -- ((0 : Nat) : Int) = 0
        refine s_on 31 rfl (congrArg Value.bool (decide_eq_true h27)) (o_move (v := (.pointer none)) rfl ?_)
        refine s_on 31 rfl (congrArg Value.bool (decide_eq_true h27)) (o_move (v := (.int .i64 owner)) rfl ?_)
        refine s_on 31 rfl (congrArg Value.bool (decide_eq_true h27)) (o_buildSlice (ps := #[(0, (.int .i64 owner))]) (cells := #[(.int .i64 owner)]) Try.underlying54 ti3 (by decide) (parts1 rfl) (by kernel_rfl) hH25 fun b28 w29 hH30 => ?_)
        refine s_on 31 rfl (congrArg Value.bool (decide_eq_true h27)) (o_callf (vs := #[(.pointer none), (.slice (some ⟨b28, 0, none⟩) 1 1)]) ca41 rfl (args2 rfl rfl) (freet_nil (ow := [owner]) hH30.all ((sl_lit (f := iV) (l := [owner]) rfl rfl (by simp)).mono (seg_sub 0 rfl))) ?_)
        rintro _ w33 ⟨rfl, hX31⟩
        refine ⟨_, rfl, ?_⟩
        have hH32 := hX31.of_all
        refine s_on 31 rfl (congrArg Value.bool (decide_eq_true h27)) (o_lenS Try.underlying54 rfl (sl_nil (L := []) 1) ?_)
        refine s_on 31 rfl (congrArg Value.bool (decide_eq_true h27)) (o_eql (a := ((0 : Nat) : Int)) (b := 0) rfl rfl ?_)
        refine s_op (o_pick_t (u := (.bool (decide (((0 : Nat) : Int) = 0)))) ((rfl : _ = _).trans (congrArg Value.bool (decide_eq_true h27))) rfl ?_)
        refine s_op (o_move (v := (.bool (decide (((0 : Nat) : Int) = 0)))) rfl ?_)
        refine s_on 39 rfl (congrArg Value.bool (decide_eq_true h27)) (o_move (v := (.pointer none)) rfl ?_)
        refine s_on 39 rfl (congrArg Value.bool (decide_eq_true h27)) (o_move (v := (.int .i64 owner)) rfl ?_)
        refine s_on 39 rfl (congrArg Value.bool (decide_eq_true h27)) (o_callf (vs := #[(.pointer none), (.int .i64 owner)]) ca43 rfl (args2 rfl rfl) (holds_nil (o := owner) hH32.all ) ?_)
        rintro _ w36 ⟨rfl, hX34⟩
        refine ⟨_, rfl, ?_⟩
        have hH35 := hX34.of_all
        refine s_on 39 rfl (congrArg Value.bool (decide_eq_true h27)) (o_lenS Try.underlying78 rfl (sl_nil (L := []) 1) ?_)
        refine s_on 39 rfl (congrArg Value.bool (decide_eq_true h27)) (o_eql (a := ((0 : Nat) : Int)) (b := 0) rfl rfl ?_)
        refine s_op (o_pick_t (u := (.bool (decide (((0 : Nat) : Int) = 0)))) ((rfl : _ = _).trans (congrArg Value.bool (decide_eq_true h27))) rfl ?_)
        refine s_op (o_move (v := (.bool (decide (((0 : Nat) : Int) = 0)))) rfl ?_)
        refine s_on 46 rfl (congrArg Value.bool (decide_eq_true h27)) (o_loadN (cs := [(S ([] : List UInt8)), (.bool false)]) Try.underlying74 rfl ti74 rfl hH35 (seg_sub 1 rfl) (CellsAt.one rfl) ?_)
        refine s_on 46 rfl (congrArg Value.bool (decide_eq_true h27)) (o_sight (v := (.agg #[(S ([] : List UInt8)), (.bool false)])) (fun _ => by kernel_rfl) ?_)
        refine s_on 46 rfl (congrArg Value.bool (decide_eq_true h27)) (o_eql74 ([] : List UInt8) false ([] : List UInt8) false rfl rfl ?_)
        refine s_op (o_pick_t (u := (.bool (eqv74 ([] : List UInt8) false ([] : List UInt8) false))) ((rfl : _ = _).trans (congrArg Value.bool (decide_eq_true h27))) rfl ?_)
        refine s_op (o_move (v := (.bool (eqv74 ([] : List UInt8) false ([] : List UInt8) false))) rfl ?_)
        rcases Bool.eq_false_or_eq_true (eqv74 ([] : List UInt8) false ([] : List UInt8) false) with h37 | h37
        · -- eqv74 ([] : List UInt8) false ([] : List UInt8) false
          refine s_on 51 rfl (congrArg Value.bool h37) (o_move (v := (.bool false)) rfl ?_)
          refine s_on 51 rfl (congrArg Value.bool h37) (o_not rfl ?_)
          refine s_op (o_pick_t (u := (.bool true)) ((rfl : _ = _).trans (congrArg Value.bool h37)) rfl ?_)
          refine s_op (o_move (v := (.bool true)) rfl ?_)
          refine s_on 55 rfl rfl (o_move (v := (.pointer none)) rfl ?_)
          refine s_on 55 rfl rfl (o_move (v := (S key)) rfl ?_)
          refine s_on 55 rfl rfl (o_callf (vs := #[(.pointer none), (S key)]) ca48 rfl (args2 rfl rfl) (line_nil (key := key) hH35.all ) ?_)
          rintro _ w40 ⟨rfl, hX38⟩
          refine ⟨_, rfl, ?_⟩
          have hH39 := hX38.of_all
          refine s_on 55 rfl rfl (o_lenS Try.underlying54 rfl (sl_nil (L := []) 1) ?_)
          refine s_on 55 rfl rfl (o_eql (a := ((0 : Nat) : Int)) (b := 0) rfl rfl ?_)
          refine s_op (o_pick_t (u := (.bool (decide (((0 : Nat) : Int) = 0)))) rfl rfl ?_)
          refine s_op (o_move (v := (.bool (decide (((0 : Nat) : Int) = 0)))) rfl ?_)
          refine s_on 62 rfl (congrArg Value.bool (decide_eq_true h27)) (o_move (v := (.pointer none)) rfl ?_)
          refine s_on 62 rfl (congrArg Value.bool (decide_eq_true h27)) (o_callf (vs := #[(.pointer none)]) ca45 rfl (args1 rfl) (edges_nil hH39.all ) ?_)
          rintro _ w43 ⟨rfl, hX41⟩
          refine ⟨_, rfl, ?_⟩
          have hH42 := hX41.of_all
          refine s_on 62 rfl (congrArg Value.bool (decide_eq_true h27)) (o_lenS Try.underlying82 rfl (sl_nil (L := []) 1) ?_)
          refine s_on 62 rfl (congrArg Value.bool (decide_eq_true h27)) (o_eql (a := ((0 : Nat) : Int)) (b := 0) rfl rfl ?_)
          refine s_op (o_pick_t (u := (.bool (decide (((0 : Nat) : Int) = 0)))) ((rfl : _ = _).trans (congrArg Value.bool (decide_eq_true h27))) rfl ?_)
          refine s_op (o_move (v := (.bool (decide (((0 : Nat) : Int) = 0)))) rfl ?_)
          refine s_on 68 rfl (congrArg Value.bool (decide_eq_true h27)) (o_callf (vs := #[]) ca37 rfl (args0) (awake14_c hH42.all ) ?_)
          rintro _ w46 ⟨rfl, hX44⟩
          refine ⟨_, rfl, ?_⟩
          have hH45 := hX44.of_all
          refine s_op (o_pick_t (u := (.bool true)) ((rfl : _ = _).trans (congrArg Value.bool (decide_eq_true h27))) rfl ?_)
          refine s_op (o_assign (v := (.bool true)) rfl ?_)
          refine s_nil ?_
          refine t_norm (hK19 _ _ ?_)
          refine wp_ret ?_
          refine c_ret1 Try.results9  (v := (.bool true)) rfl ?_
          have hH47 : Has E w46 [R] := (hH45.front 2 rfl).first 1 rfl
          exact ⟨rfl, hH47⟩
        · -- not: eqv74 ([] : List UInt8) false ([] : List UInt8) false
          first | exact absurd h37 (by decide) | exact absurd (by first | rfl | decide | (simp; done)) h37
      · -- not: ((0 : Nat) : Int) = 0
        first | exact absurd h27 (by decide) | exact absurd (by first | rfl | decide | (simp; done)) h27
    · -- not: (1 : Int) = (1 : Int)
      first | exact absurd h23 (by decide) | exact absurd (by first | rfl | decide | (simp; done)) h23
end Go.Q
namespace Go.Q
section
variable {H : Type} {enc : TypeId × Value → H} {P : Program} {w : World} {t e : TypeId} {cs : List Value}
/-- These cells read as a value of the type. -/
def Rd (enc : TypeId × Value → H) (P : Program) (w : World) (t : TypeId) (cs : List Value) : Prop := ∃ fuel x, DataW.trod enc P w 0 (fun _ => true) true fuel t cs = some x
theorem rd_of {v : Value} {d : DataW H} {ps : List MemPlace} (h : DataW.Trod enc P w 0 (fun _ => true) true t v d ps) : Rd enc P w t v.cells.toList := ⟨h.choose, _, h.choose_spec⟩
theorem rd_int {k : IntKind} (ht : P.underlying t = some (.int k)) (h : Rd enc P w t cs) : ∃ n, cs = [.int k n] ∧ (Lit.int k n).wf = true := by
  obtain ⟨f, x, h⟩ := h
  obtain ⟨n, h1, _, h2⟩ := DataW.trod_int ht h
  exact ⟨n, h1, h2⟩
theorem rd_i64 (ht : P.underlying t = some (.int .i64)) (h : Rd enc P w t cs) : ∃ n, cs = [iV n] ∧ (-9223372036854775808 : Int) ≤ n ∧ n ≤ 9223372036854775807 := by
  obtain ⟨n, h1, h2⟩ := rd_int ht h
  exact ⟨n, h1, wf_i64 h2⟩
theorem rd_string (ht : P.underlying t = some .string) (h : Rd enc P w t cs) : ∃ l : List UInt8, cs = [S l] ∧ l.length ≤ 9223372036854775807 := by
  obtain ⟨f, x, h⟩ := h
  obtain ⟨s, h1, _, h2⟩ := DataW.trod_string ht h
  exact ⟨s.data.toList, by rw [h1, S_of], by rw [show maxLen = 9223372036854775807 from rfl] at h2; exact h2⟩
theorem rd_bool (ht : P.underlying t = some .bool) (h : Rd enc P w t cs) : ∃ b, cs = [.bool b] := by
  obtain ⟨f, x, h⟩ := h
  cases f with
  | zero => simp [DataW.trod] at h
  | succ m =>
    unfold DataW.trod at h
    rw [ht] at h
    split at h <;> simp_all
theorem rd_struct {fs : Array Field} (ht : P.underlying t = some (.struct fs)) (h : Rd enc P w t cs) :
    cs.length = P.cellsOf t ∧ ∀ (i : Nat) (f : Field), fs[i]? = some f → Rd enc P w f.type ((cs.drop f.offset).take (P.cellsOf f.type)) := by
  obtain ⟨f, x, h⟩ := h
  obtain ⟨xs, n, _, _, h1, h2, h3⟩ := DataW.trod_struct ht h
  refine ⟨h1, fun i f hf => ?_⟩
  have hi : i < xs.length := by rw [h2]; exact (Array.getElem?_eq_some_iff.1 hf).1
  exact ⟨n, xs[i], by rw [h3 i f hf, List.getElem?_eq_getElem hi]⟩
theorem rd_field {fs : Array Field} {i k : Nat} {f : Field} {T : TypeId} {ds : List Value} (hf : ∀ (i : Nat) (f : Field), fs[i]? = some f → Rd enc P w f.type ((cs.drop f.offset).take (P.cellsOf f.type)))
    (h : fs[i]? = some f) (hT : f.type = T) (hc : P.cellsOf T = k) (hd : (cs.drop f.offset).take k = ds) : Rd enc P w T ds := by
  have g := hf i f h
  rw [hT, hc, hd] at g
  exact g
theorem rd_slice (ht : P.underlying t = some (.slice e)) (h : Rd enc P w t cs) :
    cs = [.slice none 0 0] ∨ ∃ a len cap, cs = [.slice (some a) len cap] ∧ len ≤ cap ∧ cap ≤ 9223372036854775807 ∧
      ∀ i, i < len → ∃ r : List Value, r.length = P.cellsOf e ∧ Rd enc P w e r ∧ ∀ j, j < P.cellsOf e → w.cell? (a.add (i * P.cellsOf e + j)) = r[j]? := by
  obtain ⟨f, x, h⟩ := h
  rcases DataW.trod_slice ht h with ⟨h, _⟩ | ⟨a, len, cap, elems, rest, n, _, h1, _, _, h2, h3, h4, h5, _⟩
  · exact .inl h
  · refine .inr ⟨a, len, cap, h1, h2, by simpa [maxLen] using h3, fun i hi => ?_⟩
    have hb := h5 i hi
    rw [List.getElem?_eq_getElem (by omega)] at hb
    obtain ⟨r, hr, hd⟩ := Option.bind_eq_some_iff.1 hb
    obtain ⟨_, g1, g2⟩ := World.cells?_some hr
    refine ⟨r, g1, ⟨n, _, hd⟩, fun j hj => ?_⟩
    rw [← g2 j hj, Addr.add_add]
/-- A row, by how its elements read. -/
theorem rd_rows {α : Type} {f : α → List Value} {Good : α → Prop} {sz : Nat} (ht : P.underlying t = some (.slice e)) (hc : P.cellsOf e = sz) (h0 : 0 < sz) (hf : ∀ a, (f a).length = sz)
    (each : ∀ r, Rd enc P w e r → ∃ a, r = f a ∧ Good a) (h : Rd enc P w t cs) : ∃ (v : Value) (l : List α), cs = [v] ∧ Sl [Hp.of w] sz v l.length (l.flatMap f) ∧ ∀ a ∈ l, Good a := by
  subst hc
  rcases rd_slice ht h with rfl | ⟨a, len, cap, rfl, h1, h2, h3⟩
  · exact ⟨_, [], rfl, ⟨none, 0, rfl, Nat.le_refl _, by omega, by simp, fun g => by simp at g⟩, fun a ha => by cases ha⟩
  · have key : ∀ k, k ≤ len → ∃ l : List α, l.length = k ∧ (∀ a ∈ l, Good a) ∧ ∀ i v, (l.flatMap f)[i]? = some v → w.cell? (a.add i) = some v := by
      intro k
      induction k with
      | zero => intro _; exact ⟨[], rfl, fun a ha => (by cases ha), fun i v hv => by simp at hv⟩
      | succ k ih =>
        intro hk
        obtain ⟨l, hl, hg, hcell⟩ := ih (by omega)
        obtain ⟨r, hr, hd, hrc⟩ := h3 k (by omega)
        obtain ⟨y, rfl, hy⟩ := each r hd
        refine ⟨l ++ [y], by simp [hl], fun a ha => ?_, fun i v hv => ?_⟩
        · rcases List.mem_append.1 ha with g | g
          · exact hg a g
          · rw [List.mem_singleton.1 g]; exact hy
        · rw [List.flatMap_append, List.flatMap_cons, List.flatMap_nil, List.append_nil] at hv
          have hlen := flat_len hf l
          rcases Nat.lt_or_ge i (l.flatMap f).length with g | g
          · rw [List.getElem?_append_left g] at hv; exact hcell i v hv
          · rw [List.getElem?_append_right g] at hv
            have hj : i - (l.flatMap f).length < P.cellsOf e := by rw [← hr]; exact (List.getElem?_eq_some_iff.1 hv).1
            have := hrc (i - (l.flatMap f).length) hj
            rw [hv] at this
            rw [← this]; congr 2
            rw [hlen, hl] at g hj ⊢; omega
    obtain ⟨l, hl, hg, hcell⟩ := key len (Nat.le_refl _)
    refine ⟨_, l, rfl, ⟨some a, cap, by rw [hl], by omega, h2, flat_len hf l, fun g => ?_⟩, hg⟩
    obtain ⟨b, off, rfl, hc⟩ := cells_row (w := w) (x := a) (vs := l.flatMap f) (by rw [flat_len hf l]; exact Nat.mul_pos g h0) hcell
    exact ⟨b, off, rfl, hc⟩
theorem flat_one {α : Type} (f : α → Value) : ∀ l : List α, l.flatMap (fun a => [f a]) = l.map f
  | [] => rfl
  | a :: l => by rw [List.flatMap_cons, flat_one f l]; rfl
theorem rd_row1 {α : Type} {f : α → Value} {Good : α → Prop} (ht : P.underlying t = some (.slice e)) (hc : P.cellsOf e = 1)
    (each : ∀ r, Rd enc P w e r → ∃ a, r = [f a] ∧ Good a) (h : Rd enc P w t cs) : ∃ (v : Value) (l : List α), cs = [v] ∧ Sl [Hp.of w] 1 v l.length (l.map f) ∧ ∀ a ∈ l, Good a := by
  obtain ⟨v, l, h1, h2, h3⟩ := rd_rows (f := fun a => [f a]) ht hc (by omega) (fun _ => rfl) each h
  exact ⟨v, l, h1, by rw [flat_one] at h2; exact h2, h3⟩
/-- bounds of an int -/
def I64 (n : Int) : Prop := -9223372036854775808 ≤ n ∧ n ≤ 9223372036854775807
theorem rd_ints (ht : P.underlying t = some (.slice e)) (he : P.underlying e = some (.int .i64)) (hc : P.cellsOf e = 1) (h : Rd enc P w t cs) : ∃ (v : Value) (l : List Int), cs = [v] ∧ Ints [Hp.of w] v l ∧ ∀ a ∈ l, I64 a :=
  rd_row1 ht hc (fun r hr => rd_i64 he hr) h
theorem rd_strings (ht : P.underlying t = some (.slice e)) (he : P.underlying e = some .string) (hc : P.cellsOf e = 1) (h : Rd enc P w t cs) : ∃ (v : Value) (l : List (List UInt8)), cs = [v] ∧ Sl [Hp.of w] 1 v l.length (l.map S) ∧ ∀ a ∈ l, a.length ≤ 9223372036854775807 :=
  rd_row1 ht hc (fun r hr => rd_string he hr) h
/-- a value of a type of one cell is its cell -/
theorem val_one {r : Reach} {b0 : Nat} {v u : Value} (hn : match P.underlying t with | some (.struct _) => False | some (.array _ _) => False | _ => True) (hval : Value.okWide P w r b0 t v) (h : v.cells.toList = [u]) : v = u := by
  cases v with
  | agg c =>
    unfold Value.okWide at hval
    cases hu : P.underlying t with
    | none => rw [hu] at hval; simp [Cell.okWide, Cell.ok, hu] at hval
    | some d => rw [hu] at hn hval; cases d <;> first | exact hn.elim | (simp [Cell.okWide, Cell.ok, hu] at hval)
  | _ => simpa [Value.cells] using h
end
end Go.Q
