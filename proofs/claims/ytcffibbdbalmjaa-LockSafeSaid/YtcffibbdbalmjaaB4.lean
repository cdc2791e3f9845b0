/-
  Parts of a walk: what functions of the program compute, each told by a theorem (QELk11, QSlh, QELk12, QLockL, QELk13, QLockS, QELkS, QY, QERdLk).
-/
import Derived.Test.YtcffibbdbalmjaaB3
import Derived.ChangeArms
import Derived.WideShapes
import Derived.DataElems
set_option linter.unusedVariables false
set_option linter.unusedSimpArgs false
namespace Go.Q
open Go.Proofs
set_option linter.unusedVariables false
set_option maxRecDepth 100000
attribute [local irreducible] wpList OK Code.wp
set_option maxHeartbeats 4000000 in
theorem pgrow_c {E w : World} {R : List Hp}  {n : Int}  (hH : Has E w [R]) (hn : 0 ≤ n ∧ n ≤ 1000000) :
    Calls Try.prog 135 #[(.slice none 0 0), (.int .i64 n)] w fun e w' => ∃ (v1' : Value) (s2' : List Hp), e = .returned v1' ∧ (Own 170 3 v1' ([] : List Plc).length (([] : List Plc).flatMap plC) s2') ∧ Has E w' [s2', R] := by
  obtain ⟨hn1_, hn2_⟩ := hn
  refine c_enter (args := [(.slice none 0 0), (.int .i64 n)]) Try.func135 rfl Try.ntmps135 (by simp) ?_
  refine wp_seq_k fun K1 hK1 => ?_
  refine c_region ?_
  refine s_op (o_assign (v := (.slice none 0 0)) rfl ?_)
  refine s_nil ?_
  refine t_norm (hK1 _ _ ?_)
  refine wp_seq_k fun K2 hK2 => ?_
  refine wp_seq_k fun K3 hK3 => ?_
  refine c_region ?_
  refine s_op (o_move (v := (.int .i64 n)) rfl ?_)
  refine s_op (o_lss (a := n) (b := 0) rfl rfl ?_)
  refine s_nil ?_
  refine t_norm (hK3 _ _ ?_)
  refine c_cond rfl (fun h4 => ?_) (fun h4 => ?_)
  · -- n < 0
    exfalso; omega
  · -- not: n < 0
    refine wp_skip ?_
    refine t_norm (hK2 _ _ ?_)
    refine wp_seq_k fun K5 hK5 => ?_
    refine wp_seq_k fun K6 hK6 => ?_
    refine c_region ?_
    refine s_op (o_move (v := (.int .i64 n)) rfl ?_)
    refine s_op (o_move (v := (.slice none 0 0)) rfl ?_)
    refine s_op (o_cap Try.underlying166 rfl ?_)
    refine s_op (o_move (v := (.slice none 0 0)) rfl ?_)
    refine s_op (o_lenS Try.underlying166 rfl (sl_nil (L := []) 1) ?_)
    refine s_op (o_sub (a := ((0 : Nat) : Int)) (b := ((0 : Nat) : Int)) rfl rfl (w64 (by omega) (by omega)) ?_)
    refine s_op (o_sub (a := n) (b := ((0 : Nat) : Int) - ((0 : Nat) : Int)) rfl rfl (w64 (by omega) (by omega)) ?_)
    refine s_op (o_assign (v := (.int .i64 (n - (((0 : Nat) : Int) - ((0 : Nat) : Int))))) rfl ?_)
    refine s_nil ?_
    refine t_norm (hK6 _ _ ?_)
    refine wp_seq_k fun K7 hK7 => ?_
    refine c_region ?_
    refine s_op (o_move (v := (.int .i64 (n - (((0 : Nat) : Int) - ((0 : Nat) : Int))))) rfl ?_)
    refine s_op (o_gtr (a := n - (((0 : Nat) : Int) - ((0 : Nat) : Int))) (b := 0) rfl rfl ?_)
    refine s_nil ?_
    refine t_norm (hK7 _ _ ?_)
    refine c_cond rfl (fun h8 => ?_) (fun h8 => ?_)
    · -- 0 < n - (((0 : Nat) : Int) - ((0 : Nat) : Int))
      refine c_region ?_
      refine s_op (o_move (v := (.slice none 0 0)) rfl ?_)
      refine s_op (o_move (v := (.slice none 0 0)) rfl ?_)
      refine s_op (o_cap Try.underlying166 rfl ?_)
      refine s_op (o_slnil Try.underlying166 ti170 rfl rfl (by omega) ?_)
      refine s_op (o_move (v := (.int .i64 (n - (((0 : Nat) : Int) - ((0 : Nat) : Int))))) rfl ?_)
      refine s_op (o_appmake (m := (n - (((0 : Nat) : Int) - ((0 : Nat) : Int))).toNat) (cs := []) Try.underlying166 Try.underlying3 ti170 rfl (by decide) rfl (sl_nil 3) rfl (by omega) hH (List.nil_subset _) (by omega) (by omega) (by omega) fun b18 c19 p20 w21 hs23 hr24 hm25 ht26 hH22 => ?_)
      refine s_op (o_move (v := (.slice none 0 0)) rfl ?_)
      refine s_op (o_lenS Try.underlying166 rfl (sl_nil (L := []) 1) ?_)
      obtain ⟨o27, n28, c29, ho33, hn30, hc31, hq32⟩ := rsl_ex4 0 3 (i := 0) (j := ((0 : Nat) : Int)) (m := ((p20 : Nat) : Int)) (by omega) (by omega) (by omega)
      refine s_op (o_rsl2 (i := 0) (j := ((0 : Nat) : Int)) (m := ((p20 : Nat) : Int)) Try.underlying166 ti170 rfl (bounds_h (n := (0 + (n - (((0 : Nat) : Int) - ((0 : Nat) : Int))).toNat)) (cap := p20) (j := ((0 : Nat) : Int)) (by omega) (by omega)) (by omega) (by omega) (by omega) ho33 hn30 hc31 ?_)
      refine s_op (o_assign (v := (.slice (some ⟨b18, o27, none⟩) n28 c29)) rfl ?_)
      refine s_nil ?_
      refine t_norm (hK5 _ _ ?_)
      refine wp_seq_k fun K34 hK34 => ?_
      refine c_region ?_
      refine s_op (o_move (v := (.slice (some ⟨b18, o27, none⟩) n28 c29)) rfl ?_)
      refine s_op (o_assign (v := (.slice (some ⟨b18, o27, none⟩) n28 c29)) rfl ?_)
      refine s_nil ?_
      refine t_norm (hK34 _ _ ?_)
      refine wp_ret ?_
      refine c_ret1 Try.results135  (v := (.slice (some ⟨b18, o27, none⟩) n28 c29)) rfl ?_
      refine ⟨_, _, rfl, ⟨rfl, .inr ⟨b18, c29, c19, by rw [show n28 = 0 from by omega, show (o27 : Nat) = 0 from by omega]; rfl, rfl, by simp, by simp only [maxLen]; omega, ?_, by simp⟩⟩, hH22⟩
      · rw [hs23]; congr 1; omega
    · -- not: 0 < n - (((0 : Nat) : Int) - ((0 : Nat) : Int))
      refine wp_skip ?_
      refine t_norm (hK5 _ _ ?_)
      refine wp_seq_k fun K35 hK35 => ?_
      refine c_region ?_
      refine s_op (o_move (v := (.slice none 0 0)) rfl ?_)
      refine s_op (o_assign (v := (.slice none 0 0)) rfl ?_)
      refine s_nil ?_
      refine t_norm (hK35 _ _ ?_)
      refine wp_ret ?_
      refine c_ret1 Try.results135  (v := (.slice none 0 0)) rfl ?_
      exact ⟨_, _, rfl, Own.nil 170 3, Has.nil hH⟩
set_option maxHeartbeats 4000000 in
theorem pconcat_c {E w : World} {R : List Hp} {v_ls : Value} {ls : List (Value × List Plc)}  (hH : Has E w [R]) (h_ls : Sl R 1 v_ls ls.length (ls.map rwV)) (hq : ∀ q ∈ ls, Sl R 3 (rwV q) q.2.length (q.2.flatMap plC)) (hn : (ls.flatMap (fun q_ : Value × List Plc => q_.2)).length ≤ 1000000) :
    Calls Try.prog 96 #[v_ls] w fun e w' => ∃ (v1' : Value) (s2' : List Hp), e = .returned v1' ∧ (Own 170 3 v1' (ls.flatMap (fun q_ : Value × List Plc => q_.2)).length ((ls.flatMap (fun q_ : Value × List Plc => q_.2)).flatMap plC) s2') ∧ Has E w' [s2', R] := by
  refine c_enter (args := [v_ls]) Try.func96 rfl Try.ntmps96 (by simp) ?_
  refine wp_seq_k fun K1 hK1 => ?_
  refine c_region ?_
  refine s_op (o_assign (v := (.slice none 0 0)) rfl ?_)
  refine s_nil ?_
  refine t_norm (hK1 _ _ ?_)
  refine wp_seq_k fun K2 hK2 => ?_
  refine c_region ?_
  refine s_op (o_assign (v := (.int .i64 0)) rfl ?_)
  refine s_nil ?_
  refine t_norm (hK2 _ _ ?_)
  refine wp_seq_k fun K3 hK3 => ?_
  refine wp_seq_k fun K4 hK4 => ?_
  refine c_region ?_
  refine s_op (o_move (v := v_ls) rfl ?_)
  refine s_op (o_lenS Try.underlying217 rfl h_ls ?_)
  refine s_op (o_move (v := (.int .i64 0)) rfl ?_)
  refine s_nil ?_
  refine t_norm (hK4 _ _ ?_)
  refine wp_block ?_
  let I6 : Nat → (Nat → Value) → World → Prop := fun n__ r__ w__ => ∃ (k : Nat) (sm : Int), n__ = ls.length - k ∧ Has E w__ [R] ∧ (k ≤ ls.length) ∧ (sm = (((ls.take k).flatMap (fun q_ : Value × List Plc => q_.2)).length : Int)) ∧ r__ 0 = v_ls ∧ r__ 2 = (.slice none 0 0) ∧ r__ 3 = (.int .i64 sm) ∧ r__ 9 = v_ls ∧ r__ 10 = (.int .i64 ((ls.length : Nat) : Int)) ∧ r__ 11 = (.int .i64 (k : Int))
  refine c_loop I6 _ ⟨0, 0, rfl, hH, Nat.zero_le _, rfl, rfl, rfl, rfl, rfl, rfl, rfl⟩ ?_
  rintro n_ r9 w7 ⟨k, sm, rfl, hH8, hk, hsm, e5_0, e5_2, e5_3, e5_9, e5_10, e5_11⟩
  have ht_ := flat_take_len (fun q_ : Value × List Plc => q_.2) ls k
  have hv_ := h_ls.le
  refine wp_seq_k fun K10 hK10 => ?_
  refine c_region ?_
  refine s_op (o_lss (a := (k : Int)) (b := ((ls.length : Nat) : Int)) e5_11 e5_10 ?_)
  refine s_nil ?_
  refine t_norm (hK10 _ _ ?_)
  refine wp_seq_k fun K11 hK11 => ?_
  refine c_cond rfl (fun h12 => ?_) (fun h12 => ?_)
  · -- (k : Int) < ((ls.length : Nat) : Int)
    refine wp_skip ?_
    refine t_norm (hK11 _ _ ?_)
    refine wp_seq_k fun K13 hK13 => ?_
    refine wp_block ?_
    refine wp_seq_k fun K14 hK14 => ?_
    refine c_region ?_
    obtain ⟨x18, hx19⟩ : ∃ x_, ls[((k : Int)).toNat]? = some x_ := get_some (by omega)
    refine s_op (o_index1 Try.underlying217 ti166 e5_9 h_ls e5_11 (by omega) hx19 fun b15 o16 hc17 => ?_)
    refine s_op (o_load1 (v := (rwV x18)) Try.underlying166 rfl rfl hH8 (seg_sub 0 rfl) hc17 ?_)
    refine s_op (o_assign (v := (rwV x18)) rfl ?_)
    refine s_nil ?_
    refine t_norm (hK14 _ _ ?_)
    refine wp_seq_k fun K20 hK20 => ?_
    refine c_region ?_
    refine s_op (o_move (v := (.int .i64 sm)) e5_3 ?_)
    refine s_op (o_move (v := (rwV x18)) rfl ?_)
    refine s_op (o_lenS Try.underlying166 rfl (hq _ (List.mem_of_getElem? hx19)) ?_)
    have hr_ := cc_room (out := (ls.take k).flatMap (fun q_ : Value × List Plc => q_.2)) rfl (show ls[k]? = some _ from hx19) hn
    refine s_op (o_add (a := sm) (b := ((x18.2.length : Nat) : Int)) rfl rfl (w64 (by omega) (by omega)) ?_)
    refine s_op (o_assign (v := (.int .i64 (sm + ((x18.2.length : Nat) : Int)))) rfl ?_)
    refine s_nil ?_
    refine t_norm (hK20 _ _ ?_)
    refine wp_seq_k fun K21 hK21 => ?_
    refine c_region ?_
    refine s_op (o_move (v := (.int .i64 (sm + ((x18.2.length : Nat) : Int)))) rfl ?_)
    refine s_op (o_lss (a := sm + ((x18.2.length : Nat) : Int)) (b := 0) rfl rfl ?_)
    refine s_nil ?_
    refine t_norm (hK21 _ _ ?_)
    refine c_cond rfl (fun h22 => ?_) (fun h22 => ?_)
    · -- sm + ((x18.2.length : Nat) : Int) < 0
      exfalso; omega
    · -- not: sm + ((x18.2.length : Nat) : Int) < 0
      refine wp_skip ?_
      refine b_norm ?_
      refine t_norm (hK13 _ _ ?_)
      refine c_region ?_
      refine s_op (o_add (a := (k : Int)) (b := 1) e5_11 rfl (w64 (by omega) (by omega)) ?_)
      refine s_op (o_move (v := (.int .i64 ((k : Int) + 1))) rfl ?_)
      refine s_nil ?_
      refine t_norm ⟨ls.length - (k + 1), _, rfl, ?_, ?_⟩
      · omega
      · exact ⟨(k + 1), (sm + ((x18.2.length : Nat) : Int)), rfl, hH8, (by omega), (by rw [take_succ_of (show ls[k]? = some _ from hx19), List.flatMap_append, List.length_append, hsm]; simp), e5_0, e5_2, rfl, e5_9, e5_10, rfl⟩
  · -- not: (k : Int) < ((ls.length : Nat) : Int)
    refine wp_exit ?_
    refine t_exit (t_exit (x_in (?_)))
    refine t_norm (hK3 _ _ ?_)
    refine wp_seq_k fun K23 hK23 => ?_
    refine c_region ?_
    refine s_op (o_move (v := (.int .i64 sm)) e5_3 ?_)
    refine s_op (o_callf (vs := #[(.slice none 0 0), (.int .i64 sm)]) ca135 rfl (args2 rfl rfl) (pgrow_c (n := sm) hH8.all (by first | omega | (simp only []; omega) | (simp; done) | (simp; omega))) ?_)
    rintro _ w29 ⟨v24, s25, rfl, ho26, hX27⟩
    refine ⟨_, rfl, ?_⟩
    have hH28 : Has E w29 [s25, R] := hX27.of_all1
    refine s_op (o_assign (v := v24) rfl ?_)
    refine s_nil ?_
    refine t_norm (hK23 _ _ ?_)
    refine wp_seq_k fun K30 hK30 => ?_
    refine wp_seq_k fun K31 hK31 => ?_
    refine c_region ?_
    refine s_op (o_move (v := v_ls) e5_0 ?_)
    refine s_op (o_lenS Try.underlying217 rfl h_ls ?_)
    refine s_op (o_move (v := (.int .i64 0)) rfl ?_)
    refine s_nil ?_
    refine t_norm (hK31 _ _ ?_)
    refine wp_block ?_
    let I33 : Nat → (Nat → Value) → World → Prop := fun n__ r__ w__ => ∃ (k2 : Nat) (vo : Value) (so : List Hp) (out : List Plc), n__ = ls.length - k2 ∧ Has E w__ [so, R] ∧ (k2 ≤ ls.length) ∧ (Own 170 3 vo out.length (out.flatMap plC) so) ∧ (out = (ls.take k2).flatMap (fun q_ : Value × List Plc => q_.2)) ∧ r__ 0 = v_ls ∧ r__ 2 = (.slice none 0 0) ∧ r__ 3 = (.int .i64 sm) ∧ r__ 6 = vo ∧ r__ 9 = v_ls ∧ r__ 10 = (.int .i64 ((ls.length : Nat) : Int)) ∧ r__ 11 = (.int .i64 (k : Int)) ∧ r__ 12 = (.bool (decide ((k : Int) < ((ls.length : Nat) : Int)))) ∧ r__ 25 = v_ls ∧ r__ 26 = (.int .i64 ((ls.length : Nat) : Int)) ∧ r__ 27 = (.int .i64 (k2 : Int))
    refine c_loop I33 _ ⟨0, v24, s25, ([] : List Plc), rfl, hH28, Nat.zero_le _, ho26, rfl, e5_0, e5_2, e5_3, rfl, e5_9, e5_10, e5_11, rfl, rfl, rfl, rfl⟩ ?_
    rintro n_ r36 w34 ⟨k2, vo, so, out, rfl, hH35, hk2, hoo, hf, e32_0, e32_2, e32_3, e32_6, e32_9, e32_10, e32_11, e32_12, e32_25, e32_26, e32_27⟩
    have ht_ := flat_take_len (fun q_ : Value × List Plc => q_.2) ls k2
    rw [← hf] at ht_
    have hv_ := h_ls.le
    refine wp_seq_k fun K37 hK37 => ?_
    refine c_region ?_
    refine s_op (o_lss (a := (k2 : Int)) (b := ((ls.length : Nat) : Int)) e32_27 e32_26 ?_)
    refine s_nil ?_
    refine t_norm (hK37 _ _ ?_)
    refine wp_seq_k fun K38 hK38 => ?_
    refine c_cond rfl (fun h39 => ?_) (fun h39 => ?_)
    · -- (k2 : Int) < ((ls.length : Nat) : Int)
      refine wp_skip ?_
      refine t_norm (hK38 _ _ ?_)
      refine wp_seq_k fun K40 hK40 => ?_
      refine wp_block ?_
      refine wp_seq_k fun K41 hK41 => ?_
      refine c_region ?_
      obtain ⟨x45, hx46⟩ : ∃ x_, ls[((k2 : Int)).toNat]? = some x_ := get_some (by omega)
      refine s_op (o_index1 Try.underlying217 ti166 e32_25 h_ls e32_27 (by omega) hx46 fun b42 o43 hc44 => ?_)
      refine s_op (o_load1 (v := (rwV x45)) Try.underlying166 rfl rfl hH35 (seg_sub 1 rfl) hc44 ?_)
      refine s_op (o_assign (v := (rwV x45)) rfl ?_)
      refine s_nil ?_
      refine t_norm (hK41 _ _ ?_)
      refine c_region ?_
      refine s_op (o_move (v := vo) e32_6 ?_)
      refine s_op (o_move (v := (rwV x45)) rfl ?_)
      have hr_ : out.length + x45.2.length ≤ 1000000 := cc_room hf (show ls[k2]? = some _ from hx46) hn
      refine s_op (o_append Try.underlying166 ti170 rfl (by decide) rfl hoo rfl (hq _ (List.mem_of_getElem? hx46)) (hH35.front 0 rfl) (seg_sub 0 rfl) (one_plC _) (by omega) (by omega) fun v47 s48 w50 ho49 hH51 => ?_)
      have ho49 : Own 170 3 v47 (out ++ x45.2).length ((out ++ x45.2).flatMap plC) s48 := ho49.appF
      refine s_op (o_assign (v := v47) rfl ?_)
      refine s_nil ?_
      refine b_norm ?_
      refine t_norm (hK40 _ _ ?_)
      refine c_region ?_
      refine s_op (o_add (a := (k2 : Int)) (b := 1) e32_27 rfl (w64 (by omega) (by omega)) ?_)
      refine s_op (o_move (v := (.int .i64 ((k2 : Int) + 1))) rfl ?_)
      refine s_nil ?_
      refine t_norm ⟨ls.length - (k2 + 1), _, rfl, ?_, ?_⟩
      · omega
      · exact ⟨(k2 + 1), v47, s48, (out ++ x45.2), rfl, hH51, (by omega), (ho49), (by rw [take_succ_of (show ls[k2]? = some _ from hx46), List.flatMap_append, ← hf]; simp), e32_0, e32_2, e32_3, rfl, e32_9, e32_10, e32_11, e32_12, e32_25, e32_26, rfl⟩
    · -- not: (k2 : Int) < ((ls.length : Nat) : Int)
      refine wp_exit ?_
      refine t_exit (t_exit (x_in (?_)))
      refine t_norm (hK30 _ _ ?_)
      refine wp_seq_k fun K52 hK52 => ?_
      refine c_region ?_
      refine s_op (o_move (v := vo) e32_6 ?_)
      refine s_op (o_assign (v := vo) rfl ?_)
      refine s_nil ?_
      refine t_norm (hK52 _ _ ?_)
      refine wp_ret ?_
      refine c_ret1 Try.results96  (v := vo) rfl ?_
      have q53 : (ls.flatMap (fun q_ : Value × List Plc => q_.2)) = out := by (have he_ : k2 = ls.length := by omega); rw [hf, he_, List.take_length]
      exact ⟨_, _, rfl, (by rw [q53]; exact hoo), hH35⟩
end Go.Q
namespace Go.Q
/-- the slice of the first j elements -/
def headV : Value → Nat → Nat → Value
  | .slice p _ c, j, sz => sliced p 0 j c sz
  | v, _, _ => v
theorem sl_head {L : List Hp} {sz n : Nat} {v : Value} {cs : List Value} (hs : Sl L sz v n cs) {j : Nat} (hj : j ≤ n) : Sl L sz (headV v j sz) j (cs.take (j * sz)) := by
  obtain ⟨p, cap, rfl⟩ := hs.form
  obtain ⟨p', cap', e2, hnc, hcm, hl, hp⟩ := hs
  cases e2
  have hle : j * sz ≤ n * sz := Nat.mul_le_mul_right _ hj
  unfold headV sliced
  refine ⟨_, _, rfl, by omega, by omega, ?_, fun h => ?_⟩
  · rw [List.length_take, hl]; omega
  · obtain ⟨b, off, rfl, hc⟩ := hp (by omega)
    refine ⟨b, off, ?_, hc.take⟩
    split <;> simp [add_lit]
theorem flatMap_take {α β : Type} (f : α → List β) (n : Nat) (hf : ∀ x, (f x).length = n) : ∀ (l : List α) (j : Nat), (l.flatMap f).take (j * n) = (l.take j).flatMap f
  | [], j => by simp
  | x :: l, 0 => by simp
  | x :: l, j + 1 => by
    rw [List.flatMap_cons, List.take_succ_cons, List.flatMap_cons, ← flatMap_take f n hf l j, List.take_append, hf, List.take_of_length_le (by rw [hf, Nat.add_mul]; omega), show (j + 1) * n - n = j * n by rw [Nat.add_mul]; omega]
theorem sl_headf {α : Type} {f : α → List Value} {sz : Nat} (hf : ∀ x, (f x).length = sz) {L : List Hp} {v : Value} {l : List α} (hs : Sl L sz v l.length (l.flatMap f)) {j : Nat} (hj : j ≤ l.length) : Sl L sz (headV v j sz) (l.take j).length ((l.take j).flatMap f) := by
  have h := sl_head hs hj
  rw [flatMap_take f sz hf] at h
  rw [List.length_take, Nat.min_eq_left hj]; exact h
section ops
variable {P : Program} {ρ : Operand → Value} {E w : World} {ss : List (List Hp)} {K : Value → World → Prop} {dst : Option Tmp} {T : TypeId} {pos : String} {after : Array Edge} {g : Option (Nat × Bool)}
/-- s[:j] of a row that is read -/
theorem o_slh {x y : Operand} {t e : TypeId} {zz : Value} {v : Value} {sz by_ n : Nat} {cs : List Value} {L : List Hp} {k : IntKind} {j : Int} (ht : P.underlying t = some (.slice e)) (hi : TI P e zz sz by_)
    (hx : ρ x = v) (hs : Sl L sz v n cs) (hy : ρ y = .int k j) (h0 : 0 ≤ j) (h1 : j ≤ n)
    (hK : K (headV v j.toNat sz) w) : OK P ⟨dst, .slice t x none (some y) none, T, pos, after, g⟩ ρ w K := by
  have e1 : P.elem t = e := by simp [Program.elem, ht]
  obtain ⟨p, cap, rfl⟩ := hs.form
  obtain ⟨p', cap', e2, hnc, hcm, hl, hp⟩ := hs
  cases e2
  have hrun : (Instr.sliceAt t (ρ x) ((none : Option Operand).map ρ) ((some y).map ρ) ((none : Option Operand).map ρ)).run P w = .ok (sliced p 0 j.toNat cap sz) w := by
    simp only [hx, hy, Option.map_some, Option.map_none]
    rw [run_sliceAt_slice _ _ _ _ _ _ (by rw [e1]; exact ht), run_slice_any _ _ _ _ _ (by rw [e1]; exact ht), bounds_h h0 (by omega), e1]
    simp only [Result.andThen_ok, hi.size, Int.toNat_natCast]; rfl
  exact OK.val (run_v hrun) hK
end ops
end Go.Q
namespace Go.Q
open Go.Proofs
set_option linter.unusedVariables false
set_option maxRecDepth 100000
attribute [local irreducible] wpList OK Code.wp
set_option maxHeartbeats 4000000 in
theorem edges_c {E w : World} {R : List Hp} {tb : Nat} {v : TabS}  (hH : Has E w [R]) (h_tb : TbRd R tb v) (hkl : ∀ p_ ∈ v.keys, p_.1.length ≤ 1000) (hkn : v.keys.length ≤ 1000) (hsz : szT v.keys) :
    Calls Try.prog 45 #[(.pointer (some ⟨tb, 0, none⟩))] w fun e w' => ∃ (v1' : Value) (s2' : List Hp), e = .returned v1' ∧ (Own 95 2 v1' (edgesS v.keys).length ((edgesS v.keys).flatMap tmC) s2') ∧ Has E w' [s2', R] := by
  have hks_ := names_len v.keys
  obtain ⟨x1, hc3, f2⟩ := h_tb
  refine c_enter (args := [(.pointer (some ⟨tb, 0, none⟩))]) Try.func45 rfl Try.ntmps45 (by simp) ?_
  refine wp_seq_k fun K4 hK4 => ?_
  refine c_region ?_
  refine s_op (o_assign (v := (.slice none 0 0)) rfl ?_)
  refine s_nil ?_
  refine t_norm (hK4 _ _ ?_)
  refine wp_seq_k fun K5 hK5 => ?_
  refine c_region ?_
  refine s_op (o_assign (v := (.slice none 0 0)) rfl ?_)
  refine s_nil ?_
  refine t_norm (hK5 _ _ ?_)
  refine wp_seq_k fun K6 hK6 => ?_
  refine wp_seq_k fun K7 hK7 => ?_
  refine c_region ?_
  refine s_op (o_move (v := (.pointer (some ⟨tb, 0, none⟩))) rfl ?_)
  refine s_op (o_callf (vs := #[(.pointer (some ⟨tb, 0, none⟩))]) ca95 rfl (args1 rfl) (names_c (v := v) hH.all ((TbRd.mk hc3 f2).mono (seg_sub 0 rfl)) (by first | omega | (simp only []; omega) | (simp; done) | (simp; omega)) (by first | omega | (simp only []; omega) | (simp; done) | (simp; omega))) ?_)
  rintro _ w13 ⟨v8, s9, rfl, ho10, hX11⟩
  refine ⟨_, rfl, ?_⟩
  have hH12 : Has E w13 [s9, R] := hX11.of_all1
  refine s_op (o_lenS Try.underlying53 rfl ho10.sl ?_)
  refine s_op (o_move (v := (.int .i64 0)) rfl ?_)
  refine s_nil ?_
  refine t_norm (hK7 _ _ ?_)
  refine wp_block ?_
  let I15 : Nat → (Nat → Value) → World → Prop := fun n__ r__ w__ => ∃ (k : Nat) (va : Value) (sa : List Hp) (oa : List (Int × Int)), n__ = (namesS v.keys).length - k ∧ Has E w__ [sa, s9, R] ∧ (k ≤ (namesS v.keys).length) ∧ (oa.length ≤ k * 1000000) ∧ (Own 95 2 va oa.length (oa.flatMap tmC) sa) ∧ (oa = (((namesS v.keys).take k).flatMap (edgK v.keys))) ∧ r__ 0 = (.pointer (some ⟨tb, 0, none⟩)) ∧ r__ 2 = (.slice none 0 0) ∧ r__ 3 = va ∧ r__ 12 = v8 ∧ r__ 13 = (.int .i64 (((namesS v.keys).length : Nat) : Int)) ∧ r__ 14 = (.int .i64 (k : Int))
  have hH16 : Has E w13 [[], s9, R] := (Has.nil ((hH12.front 1 rfl).front 1 rfl)).first 3 rfl
  refine c_loop I15 _ ⟨0, (.slice none 0 0), [], [], rfl, hH16, Nat.zero_le _, Nat.zero_le _, Own.nil 95 2, rfl, rfl, rfl, rfl, rfl, rfl, rfl⟩ ?_
  rintro n_ r19 w17 ⟨k, va, sa, oa, rfl, hH18, hk, hla, hoa, hfa, e14_0, e14_2, e14_3, e14_12, e14_13, e14_14⟩
  refine wp_seq_k fun K20 hK20 => ?_
  refine c_region ?_
  refine s_op (o_lss (a := (k : Int)) (b := (((namesS v.keys).length : Nat) : Int)) e14_14 e14_13 ?_)
  refine s_nil ?_
  refine t_norm (hK20 _ _ ?_)
  refine wp_seq_k fun K21 hK21 => ?_
  refine c_cond rfl (fun h22 => ?_) (fun h22 => ?_)
  · -- (k : Int) < (((namesS v.keys).length : Nat) : Int)
    refine wp_skip ?_
    refine t_norm (hK21 _ _ ?_)
    refine wp_seq_k fun K23 hK23 => ?_
    refine wp_block ?_
    refine wp_seq_k fun K24 hK24 => ?_
    refine c_region ?_
    obtain ⟨x28, hx29⟩ : ∃ x_, (namesS v.keys)[((k : Int)).toNat]? = some x_ := get_some (by omega)
    refine s_op (o_index1 Try.underlying53 ti9 e14_12 ho10.sl e14_14 (by omega) hx29 fun b25 o26 hc27 => ?_)
    refine s_op (o_load1 (v := (S x28)) Try.underlying9 rfl rfl hH18 (seg_sub 1 rfl) hc27 ?_)
    refine s_op (o_assign (v := (S x28)) rfl ?_)
    refine s_nil ?_
    refine t_norm (hK24 _ _ ?_)
    refine wp_seq_k fun K30 hK30 => ?_
    refine c_region ?_
    refine s_op (o_move (v := (.pointer (some ⟨tb, 0, none⟩))) e14_0 ?_)
    refine s_op (o_nilCheck rfl ?_)
    refine s_op (o_fieldAddr (k := 0) (fun _ => by kernel_rfl) rfl ?_)
    refine s_op (o_load1 (v := (.map (some x1))) Try.underlying162 rfl rfl hH18 (seg_sub 2 rfl) (CellsAt.field (k := 0) (ds := [(.map (some x1))]) hc3 rfl) ?_)
    refine s_op (o_move (v := (S x28)) rfl ?_)
    refine s_op (o_dirRd (k := x28) Try.underlying162 (key_string Try.underlying9) ti165 rfl rfl f2 hH18 (seg_sub 2 rfl) (fun hN31 => ?_) (fun b33 v34 hS32 hr35 => ?_))
    · -- none
      exact (names_get (show (namesS v.keys)[_]? = some x28 from hx29) hN31).elim
    · -- some
      obtain ⟨x36, x37, hc40, f38, f39⟩ := hr35
      have f38_n := f38.le
      have f39_n := f39.le
      refine s_op (o_assign (v := (.pointer (some ⟨b33, 0, none⟩))) rfl ?_)
      refine s_nil ?_
      refine t_norm (hK30 _ _ ?_)
      refine wp_seq_k fun K41 hK41 => ?_
      refine c_region ?_
      refine s_op (o_move (v := (.pointer (some ⟨b33, 0, none⟩))) rfl ?_)
      refine s_op (o_nilCheck rfl ?_)
      refine s_op (o_fieldAddr (k := 1) (fun _ => by kernel_rfl) rfl ?_)
      refine s_op (o_load1 (v := x37) Try.underlying166 rfl rfl hH18 (seg_sub 2 rfl) (CellsAt.field (k := 1) (ds := [x37]) hc40 rfl) ?_)
      refine s_op (o_lenS Try.underlying166 rfl f39 ?_)
      refine s_op (o_move (v := (.int .i64 0)) rfl ?_)
      refine s_nil ?_
      refine t_norm (hK41 _ _ ?_)
      refine wp_block ?_
      let I43 : Nat → (Nat → Value) → World → Prop := fun n__ r__ w__ => ∃ (i : Nat) (vb : Value) (sb : List Hp) (ob : List (Int × Int)), n__ = v34.line.length - i ∧ Has E w__ [sb, s9, R] ∧ (i ≤ v34.line.length) ∧ (Own 95 2 vb ob.length (ob.flatMap tmC) sb) ∧ (ob = oa ++ edS v34.hold [] (v34.line.take i)) ∧ (ob.length ≤ oa.length + 1000000) ∧ r__ 0 = (.pointer (some ⟨tb, 0, none⟩)) ∧ r__ 2 = (.slice none 0 0) ∧ r__ 3 = vb ∧ r__ 5 = (S x28) ∧ r__ 6 = (.pointer (some ⟨b33, 0, none⟩)) ∧ r__ 12 = v8 ∧ r__ 13 = (.int .i64 (((namesS v.keys).length : Nat) : Int)) ∧ r__ 14 = (.int .i64 (k : Int)) ∧ r__ 15 = (.bool (decide ((k : Int) < (((namesS v.keys).length : Nat) : Int)))) ∧ r__ 27 = x37 ∧ r__ 28 = (.int .i64 ((v34.line.length : Nat) : Int)) ∧ r__ 29 = (.int .i64 (i : Int))
      refine c_loop I43 _ ⟨0, va, sa, oa, rfl, hH18, Nat.zero_le _, hoa, (by simp [edS]), (by omega), e14_0, e14_2, e14_3, rfl, rfl, e14_12, e14_13, e14_14, rfl, rfl, rfl, rfl⟩ ?_
      rintro n_ r46 w44 ⟨i, vb, sb, ob, rfl, hH45, hi, hob, hfb, hlb, e42_0, e42_2, e42_3, e42_5, e42_6, e42_12, e42_13, e42_14, e42_15, e42_27, e42_28, e42_29⟩
      refine wp_seq_k fun K47 hK47 => ?_
      refine c_region ?_
      refine s_op (o_lss (a := (i : Int)) (b := ((v34.line.length : Nat) : Int)) e42_29 e42_28 ?_)
      refine s_nil ?_
      refine t_norm (hK47 _ _ ?_)
      refine wp_seq_k fun K48 hK48 => ?_
      refine c_cond rfl (fun h49 => ?_) (fun h49 => ?_)
      · -- (i : Int) < ((v34.line.length : Nat) : Int)
        refine wp_skip ?_
        refine t_norm (hK48 _ _ ?_)
        refine wp_seq_k fun K50 hK50 => ?_
        refine wp_block ?_
        refine wp_seq_k fun K51 hK51 => ?_
        refine c_region ?_
        refine s_op (o_move (v := (.int .i64 (i : Int))) e42_29 ?_)
        obtain ⟨x55, hx56⟩ : ∃ x_, v34.line[((i : Int)).toNat]? = some x_ := get_some (by omega)
        refine s_op (o_indexF plC_len Try.underlying166 ti170 e42_27 f39 rfl e42_29 (by omega) hx56 fun b52 o53 hc54 => ?_)
        refine s_op (o_loadN (cs := [(S x55.key), (.bool x55.wr), (.int .i64 x55.own)]) Try.underlying170 rfl ti170 rfl hH45 (seg_sub 2 rfl) hc54 ?_)
        refine s_op (o_alloc (cs := #[(S ([] : List UInt8)), (.bool false), (.int .i64 0)]) ti170 rfl hH45 fun b57 w58 hH59 => ?_)
        refine s_op (o_assign (v := (.int .i64 (i : Int))) rfl ?_)
        refine s_eff (o_storeN (vs := [(S x55.key), (.bool x55.wr), (.int .i64 x55.own)]) (c' := #[(S x55.key), (.bool x55.wr), (.int .i64 x55.own)]) ti170 rfl rfl rfl rfl (by intro u hu; simp only [List.mem_cons, List.not_mem_nil, or_false] at hu; rcases hu with rfl | rfl | rfl <;> first | rfl) (by simp) (by kernel_rfl) (hH59.front 0 rfl) fun w60 hH61 => ?_)
        refine s_nil ?_
        refine t_norm (hK51 _ _ ?_)
        refine wp_seq_k fun K62 hK62 => ?_
        refine Rest.region mixed (by kernel_rfl) ?_
        have hH63 : Has E { w60 with drawn := w60.drawn + 1 } [[Hp.one b57 (.cells #[(S x55.key), (.bool x55.wr), (.int .i64 x55.own)] 170 (0, 0))], sb, s9, R] := Has0.drew hH61 _
        refine Rest.phaseA (fun w_ => Has E w_ [R]) 0 14 14 rfl (by decide) (by kernel_rfl) ?_
        refine a_op 0 rfl (by kernel_rfl) (fun w_ h_ => o_move (v := (.pointer (some ⟨b33, 0, none⟩))) e42_6 ⟨rfl, rfl⟩) ?_
        refine a_op 1 rfl (by kernel_rfl) (fun w_ h_ => o_nilCheck rfl ⟨rfl, rfl⟩) ?_
        refine a_op 2 rfl (by kernel_rfl) (fun w_ h_ => o_fieldAddr (k := 0) (fun _ => by kernel_rfl) rfl ⟨rfl, rfl⟩) ?_
        refine a_op 3 rfl (by kernel_rfl) (fun w_ h_ => o_load1 (v := x36) Try.underlying166 rfl rfl h_ (seg_sub 0 rfl) (CellsAt.field (k := 0) (ds := [x36]) hc40 rfl) ⟨rfl, rfl⟩) ?_
        refine a_op 4 rfl (by kernel_rfl) (fun w_ h_ => o_move (v := (.pointer (some ⟨b33, 0, none⟩))) e42_6 ⟨rfl, rfl⟩) ?_
        refine a_op 5 rfl (by kernel_rfl) (fun w_ h_ => o_nilCheck rfl ⟨rfl, rfl⟩) ?_
        refine a_op 6 rfl (by kernel_rfl) (fun w_ h_ => o_fieldAddr (k := 1) (fun _ => by kernel_rfl) rfl ⟨rfl, rfl⟩) ?_
        refine a_op 7 rfl (by kernel_rfl) (fun w_ h_ => o_load1 (v := x37) Try.underlying166 rfl rfl h_ (seg_sub 0 rfl) (CellsAt.field (k := 1) (ds := [x37]) hc40 rfl) ⟨rfl, rfl⟩) ?_
        refine a_op 8 rfl (by kernel_rfl) (fun w_ h_ => o_move (v := (.int .i64 (i : Int))) rfl ⟨rfl, rfl⟩) ?_
        refine a_op 13 rfl (by kernel_rfl) (fun w_ h_ => o_move (v := (.int .i64 0)) rfl ⟨rfl, rfl⟩) ?_
        have hH64 : Has E { w60 with drawn := w60.drawn + 1 } [R] := (hH63.front 3 rfl).first 1 rfl
        refine a_w 9 rfl (by kernel_rfl) hH64 (o_slh Try.underlying166 ti170 rfl f39 rfl (by omega) (by omega) ?_)
        have hH65 : Has E { w60 with drawn := w60.drawn + 1 } [R] := (hH63.front 3 rfl).first 1 rfl
        refine a_w 10 rfl (by kernel_rfl) hH65 (o_buildSlice (ps := #[(0, x36), (1, (headV x37 ((i : Int)).toNat 3))]) (cells := #[x36, (headV x37 ((i : Int)).toNat 3)]) Try.underlying217 ti166 (by decide) (parts2 rfl rfl) (fill_one2 f38.one (Sl.one (sl_headf (f := plC) (fun _ => rfl) f39 (show ((i : Int)).toNat ≤ v34.line.length by omega))) rfl) hH63 fun b66 w67 hH68 => ?_)
        have hH69 : Has E w67 [R] := (hH68.front 4 rfl).first 1 rfl
        have hsz_ := hsz.get hS32
        refine a_w 11 rfl (by kernel_rfl) hH69 (o_callf (vs := #[(.slice (some ⟨b66, 0, none⟩) 2 2)]) ca96 rfl (args1 rfl) (pconcat_c (ls := [(x36, v34.hold), ((headV x37 ((i : Int)).toNat 3), v34.line.take ((i : Int)).toNat)]) hH68.all ((sl_lit (f := rwV) (l := [(x36, v34.hold), ((headV x37 ((i : Int)).toNat 3), v34.line.take ((i : Int)).toNat)]) rfl rfl (by simp)).mono (seg_sub 0 rfl)) (fun q_ hq_ => by simp only [List.mem_cons, List.not_mem_nil, or_false] at hq_; rcases hq_ with rfl | rfl; exact (f38.mono (seg_sub 4 rfl)); exact ((sl_headf (f := plC) (fun _ => rfl) f39 (show ((i : Int)).toNat ≤ v34.line.length by omega)).mono (seg_sub 4 rfl))) (by first | omega | (simp only []; omega) | (simp; done) | (simp; omega))) ?_)
        rintro _ w75 ⟨v70, s71, rfl, ho72, hX73⟩
        refine ⟨_, rfl, ?_⟩
        have hH74 : Has E w75 [s71, [Hp.one b66 (.cells #[x36, (headV x37 ((i : Int)).toNat 3)] 166 (0, 0))], [Hp.one b57 (.cells #[(S x55.key), (.bool x55.wr), (.int .i64 x55.own)] 170 (0, 0))], sb, s9, R] := hX73.of_all1
        refine a_op 12 rfl (by kernel_rfl) (fun w_ h_ => o_lenS Try.underlying166 rfl ho72.sl ⟨rfl, rfl⟩) ?_
        have hH76 : Has E w75 [R] := (hH74.front 5 rfl).first 1 rfl
        refine a_done (by kernel_rfl) hH76 ?_
        refine Rest.done (by kernel_rfl) ?_
        refine t_norm (hK62 _ _ ?_)
        refine wp_block ?_
        have hcc_ : ([(x36, v34.hold), ((headV x37 ((i : Int)).toNat 3), v34.line.take ((i : Int)).toNat)].flatMap (fun q_ : Value × List Plc => q_.2)) = v34.hold ++ v34.line.take i := by simp
        have hcl_ : ([(x36, v34.hold), ((headV x37 ((i : Int)).toNat 3), v34.line.take ((i : Int)).toNat)].flatMap (fun q_ : Value × List Plc => q_.2)).length ≤ 1000 := by rw [hcc_]; have h7_ := hsz.get hS32; simp only [List.length_append, List.length_take]; omega
        let I78 : Nat → (Nat → Value) → World → Prop := fun n__ r__ w__ => ∃ (j : Nat) (vc : Value) (sc : List Hp) (oc : List (Int × Int)), n__ = ([(x36, v34.hold), ((headV x37 ((i : Int)).toNat 3), v34.line.take ((i : Int)).toNat)].flatMap (fun q_ : Value × List Plc => q_.2)).length - j ∧ Has E w__ [sc, s71, [Hp.one b66 (.cells #[x36, (headV x37 ((i : Int)).toNat 3)] 166 (0, 0))], [Hp.one b57 (.cells #[(S x55.key), (.bool x55.wr), (.int .i64 x55.own)] 170 (0, 0))], s9, R] ∧ (j ≤ ([(x36, v34.hold), ((headV x37 ((i : Int)).toNat 3), v34.line.take ((i : Int)).toNat)].flatMap (fun q_ : Value × List Plc => q_.2)).length) ∧ (Own 95 2 vc oc.length (oc.flatMap tmC) sc) ∧ (oc = ob ++ (((([(x36, v34.hold), ((headV x37 ((i : Int)).toNat 3), v34.line.take ((i : Int)).toNat)].flatMap (fun q_ : Value × List Plc => q_.2)).take j).filter (clashS x55)).map (fun q => (x55.own, q.own)))) ∧ (oc.length ≤ ob.length + j) ∧ r__ 0 = (.pointer (some ⟨tb, 0, none⟩)) ∧ r__ 2 = (.slice none 0 0) ∧ r__ 3 = vc ∧ r__ 5 = (S x28) ∧ r__ 6 = (.pointer (some ⟨b33, 0, none⟩)) ∧ r__ 7 = (.int .i64 (i : Int)) ∧ r__ 8 = (.pointer (some ⟨b57, 0, none⟩)) ∧ r__ 12 = v8 ∧ r__ 13 = (.int .i64 (((namesS v.keys).length : Nat) : Int)) ∧ r__ 14 = (.int .i64 (k : Int)) ∧ r__ 15 = (.bool (decide ((k : Int) < (((namesS v.keys).length : Nat) : Int)))) ∧ r__ 27 = x37 ∧ r__ 28 = (.int .i64 ((v34.line.length : Nat) : Int)) ∧ r__ 29 = (.int .i64 (i : Int)) ∧ r__ 30 = (.bool (decide ((i : Int) < ((v34.line.length : Nat) : Int)))) ∧ r__ 45 = v70 ∧ r__ 46 = (.int .i64 ((([(x36, v34.hold), ((headV x37 ((i : Int)).toNat 3), v34.line.take ((i : Int)).toNat)].flatMap (fun q_ : Value × List Plc => q_.2)).length : Nat) : Int)) ∧ r__ 47 = (.int .i64 (j : Int))
        have hH79 : Has E w75 [sb, s71, [Hp.one b66 (.cells #[x36, (headV x37 ((i : Int)).toNat 3)] 166 (0, 0))], [Hp.one b57 (.cells #[(S x55.key), (.bool x55.wr), (.int .i64 x55.own)] 170 (0, 0))], s9, R] := Has.pick hH74 [3, 0, 0, 0, 0, 0] (by kernel_rfl)
        refine c_loop I78 _ ⟨0, vb, sb, ob, rfl, hH79, Nat.zero_le _, hob, (by simp), (by omega), e42_0, e42_2, e42_3, e42_5, e42_6, rfl, rfl, e42_12, e42_13, e42_14, e42_15, e42_27, e42_28, e42_29, rfl, rfl, rfl, rfl⟩ ?_
        rintro n_ r82 w80 ⟨j, vc, sc, oc, rfl, hH81, hj, hoc, hfc, hlc, e77_0, e77_2, e77_3, e77_5, e77_6, e77_7, e77_8, e77_12, e77_13, e77_14, e77_15, e77_27, e77_28, e77_29, e77_30, e77_45, e77_46, e77_47⟩
        refine wp_seq_k fun K83 hK83 => ?_
        refine c_region ?_
        refine s_op (o_lss (a := (j : Int)) (b := ((([(x36, v34.hold), ((headV x37 ((i : Int)).toNat 3), v34.line.take ((i : Int)).toNat)].flatMap (fun q_ : Value × List Plc => q_.2)).length : Nat) : Int)) e77_47 e77_46 ?_)
        refine s_nil ?_
        refine t_norm (hK83 _ _ ?_)
        refine wp_seq_k fun K84 hK84 => ?_
        refine c_cond rfl (fun h85 => ?_) (fun h85 => ?_)
        · -- (j : Int) < ((([(x36, v34.hold), ((headV x37 ((i : Int)).toNat 3), v34.line.take ((i : Int)).toNat)].flatMap (fun q_ : Value × List Plc => q_.2)).length : Nat) : Int)
          refine wp_skip ?_
          refine t_norm (hK84 _ _ ?_)
          refine wp_seq_k fun K86 hK86 => ?_
          refine wp_block ?_
          refine wp_seq_k fun K87 hK87 => ?_
          refine c_region ?_
          obtain ⟨x91, hx92⟩ : ∃ x_, ([(x36, v34.hold), ((headV x37 ((i : Int)).toNat 3), v34.line.take ((i : Int)).toNat)].flatMap (fun q_ : Value × List Plc => q_.2))[((j : Int)).toNat]? = some x_ := get_some (by omega)
          refine s_op (o_indexF plC_len Try.underlying166 ti170 e77_45 ho72.sl rfl e77_47 (by omega) hx92 fun b88 o89 hc90 => ?_)
          refine s_op (o_loadN (cs := [(S x91.key), (.bool x91.wr), (.int .i64 x91.own)]) Try.underlying170 rfl ti170 rfl hH81 (seg_sub 1 rfl) hc90 ?_)
          refine s_op (o_alloc (cs := #[(S ([] : List UInt8)), (.bool false), (.int .i64 0)]) ti170 rfl hH81 fun b93 w94 hH95 => ?_)
          refine s_eff (o_storeN (vs := [(S x91.key), (.bool x91.wr), (.int .i64 x91.own)]) (c' := #[(S x91.key), (.bool x91.wr), (.int .i64 x91.own)]) ti170 rfl rfl rfl rfl (by intro u hu; simp only [List.mem_cons, List.not_mem_nil, or_false] at hu; rcases hu with rfl | rfl | rfl <;> first | rfl) (by simp) (by kernel_rfl) (hH95.front 0 rfl) fun w96 hH97 => ?_)
          refine s_nil ?_
          refine t_norm (hK87 _ _ ?_)
          refine wp_seq_k fun K98 hK98 => ?_
          refine c_region ?_
          refine s_op (o_loadN (cs := [(S x55.key), (.bool x55.wr), (.int .i64 x55.own)]) Try.underlying170 rfl ti170 e77_8 hH97 (seg_sub 4 rfl) (CellsAt.one rfl) ?_)
          refine s_op (o_loadN (cs := [(S x91.key), (.bool x91.wr), (.int .i64 x91.own)]) Try.underlying170 rfl ti170 rfl hH97 (seg_sub 0 rfl) (CellsAt.one rfl) ?_)
          refine s_op (o_callf (vs := #[(.agg #[(S x55.key), (.bool x55.wr), (.int .i64 x55.own)]), (.agg #[(S x91.key), (.bool x91.wr), (.int .i64 x91.own)])]) ca97 rfl (args2 rfl rfl) (clash_c (p := x55) (q := x91) hH97.all ) ?_)
          rintro _ w101 ⟨rfl, hX99⟩
          refine ⟨_, rfl, ?_⟩
          have hH100 := hX99.of_all
          refine s_nil ?_
          refine t_norm (hK98 _ _ ?_)
          refine c_condb rfl (fun h102 => ?_) (fun h102 => ?_)
          · -- clashS x55 x91
            refine c_region ?_
            refine s_op (o_move (v := vc) e77_3 ?_)
            refine s_op (o_fieldAddr (k := 2) (fun _ => by kernel_rfl) e77_8 ?_)
            refine s_op (o_load1 (v := (.int .i64 x55.own)) Try.underlying3 rfl rfl hH100 (seg_sub 4 rfl) (CellsAt.one rfl) ?_)
            refine s_op (o_fieldAddr (k := 2) (fun _ => by kernel_rfl) rfl ?_)
            refine s_op (o_load1 (v := (.int .i64 x91.own)) Try.underlying3 rfl rfl hH100 (seg_sub 0 rfl) (CellsAt.one rfl) ?_)
            refine s_op (o_sight (v := (.agg #[(.int .i64 x55.own), (.int .i64 x91.own)])) (fun _ => by kernel_rfl) ?_)
            refine s_op (o_buildSlice (ps := #[(0, (.agg #[(.int .i64 x55.own), (.int .i64 x91.own)]))]) (cells := #[(.int .i64 x55.own), (.int .i64 x91.own)]) Try.underlying82 ti95 (by decide) (parts1 rfl) (by kernel_rfl) hH100 fun b103 w104 hH105 => ?_)
            refine s_op (o_append Try.underlying82 ti95 rfl (by decide) rfl hoc rfl (sl_litF (f := tmC) (l := [(x55.own, x91.own)]) tmC_len rfl rfl (by simp)) (hH105.front 2 rfl) (seg_sub 0 rfl) (one_tm _) (by simp; omega) (by simp; omega) fun v106 s107 w109 ho108 hH110 => ?_)
            have ho108 : Own 95 2 v106 (oc ++ [(x55.own, x91.own)]).length ((oc ++ [(x55.own, x91.own)]).flatMap tmC) s107 := ho108.appF
            refine s_op (o_assign (v := v106) rfl ?_)
            refine s_nil ?_
            refine b_norm ?_
            refine t_norm (hK86 _ _ ?_)
            refine c_region ?_
            refine s_op (o_add (a := (j : Int)) (b := 1) e77_47 rfl (w64 (by omega) (by omega)) ?_)
            refine s_op (o_move (v := (.int .i64 ((j : Int) + 1))) rfl ?_)
            refine s_nil ?_
            have hH111 : Has E w109 [s107, s71, [Hp.one b66 (.cells #[x36, (headV x37 ((i : Int)).toNat 3)] 166 (0, 0))], [Hp.one b57 (.cells #[(S x55.key), (.bool x55.wr), (.int .i64 x55.own)] 170 (0, 0))], s9, R] := Has.pick hH110 [0, 2, 2, 2, 2, 2] (by kernel_rfl)
            refine t_norm ⟨([(x36, v34.hold), ((headV x37 ((i : Int)).toNat 3), v34.line.take ((i : Int)).toNat)].flatMap (fun q_ : Value × List Plc => q_.2)).length - (j + 1), _, rfl, ?_, ?_⟩
            · omega
            · exact ⟨(j + 1), v106, s107, (oc ++ [(x55.own, x91.own)]), rfl, hH111, (by omega), (ho108), (by rw [fil_step (show ([(x36, v34.hold), ((headV x37 ((i : Int)).toNat 3), v34.line.take ((i : Int)).toNat)].flatMap (fun q_ : Value × List Plc => q_.2))[j]? = some _ from hx92) h102, ← List.append_assoc, ← hfc]), (by first | omega | (simp only [List.length_append, List.length_cons, List.length_nil]; omega)), e77_0, e77_2, rfl, e77_5, e77_6, e77_7, e77_8, e77_12, e77_13, e77_14, e77_15, e77_27, e77_28, e77_29, e77_30, e77_45, e77_46, rfl⟩
          · -- not: clashS x55 x91
            refine wp_skip ?_
            refine b_norm ?_
            refine t_norm (hK86 _ _ ?_)
            refine c_region ?_
            refine s_op (o_add (a := (j : Int)) (b := 1) e77_47 rfl (w64 (by omega) (by omega)) ?_)
            refine s_op (o_move (v := (.int .i64 ((j : Int) + 1))) rfl ?_)
            refine s_nil ?_
            have hH112 : Has E w101 [sc, s71, [Hp.one b66 (.cells #[x36, (headV x37 ((i : Int)).toNat 3)] 166 (0, 0))], [Hp.one b57 (.cells #[(S x55.key), (.bool x55.wr), (.int .i64 x55.own)] 170 (0, 0))], s9, R] := Has.pick hH100 [1, 1, 1, 1, 1, 1] (by kernel_rfl)
            refine t_norm ⟨([(x36, v34.hold), ((headV x37 ((i : Int)).toNat 3), v34.line.take ((i : Int)).toNat)].flatMap (fun q_ : Value × List Plc => q_.2)).length - (j + 1), _, rfl, ?_, ?_⟩
            · omega
            · exact ⟨(j + 1), vc, sc, oc, rfl, hH112, (by omega), (hoc), (by rw [fil_skip (show ([(x36, v34.hold), ((headV x37 ((i : Int)).toNat 3), v34.line.take ((i : Int)).toNat)].flatMap (fun q_ : Value × List Plc => q_.2))[j]? = some _ from hx92) h102, ← hfc]), (by first | omega | (simp only [List.length_append, List.length_cons, List.length_nil]; omega)), e77_0, e77_2, e77_3, e77_5, e77_6, e77_7, e77_8, e77_12, e77_13, e77_14, e77_15, e77_27, e77_28, e77_29, e77_30, e77_45, e77_46, rfl⟩
        · -- not: (j : Int) < ((([(x36, v34.hold), ((headV x37 ((i : Int)).toNat 3), v34.line.take ((i : Int)).toNat)].flatMap (fun q_ : Value × List Plc => q_.2)).length : Nat) : Int)
          refine wp_exit ?_
          refine t_exit (t_exit (x_in (?_)))
          refine b_norm ?_
          refine t_norm (hK50 _ _ ?_)
          refine c_region ?_
          refine s_op (o_add (a := (i : Int)) (b := 1) e77_29 rfl (w64 (by omega) (by omega)) ?_)
          refine s_op (o_move (v := (.int .i64 ((i : Int) + 1))) rfl ?_)
          refine s_nil ?_
          have hH113 : Has E w80 [sc, s9, R] := (((hH81.front 5 rfl).front 5 rfl).front 2 rfl).first 3 rfl
          refine t_norm ⟨v34.line.length - (i + 1), _, rfl, ?_, ?_⟩
          · omega
          have hj_ : j = ([(x36, v34.hold), ((headV x37 ((i : Int)).toNat 3), v34.line.take ((i : Int)).toNat)].flatMap (fun q_ : Value × List Plc => q_.2)).length := by omega
          · exact ⟨(i + 1), vc, sc, oc, rfl, hH113, (by omega), (hoc), (by rw [edS_step (show v34.line[i]? = some _ from hx56), hfc, hj_, List.take_length, hcc_, hfb, List.append_assoc]), (by have h8_ := edgK_len hsz hS32 (i + 1); rw [edS_step (show v34.line[i]? = some _ from hx56)] at h8_; have h9_ := congrArg List.length hfb; rw [hfc, hj_, List.take_length, hcc_]; simp only [List.length_append] at *; omega), e77_0, e77_2, e77_3, e77_5, e77_6, e77_12, e77_13, e77_14, e77_15, e77_27, e77_28, rfl⟩
      · -- not: (i : Int) < ((v34.line.length : Nat) : Int)
        refine wp_exit ?_
        refine t_exit (t_exit (x_in (?_)))
        refine b_norm ?_
        refine t_norm (hK23 _ _ ?_)
        refine c_region ?_
        refine s_op (o_add (a := (k : Int)) (b := 1) e42_14 rfl (w64 (by omega) (by omega)) ?_)
        refine s_op (o_move (v := (.int .i64 ((k : Int) + 1))) rfl ?_)
        refine s_nil ?_
        refine t_norm ⟨(namesS v.keys).length - (k + 1), _, rfl, ?_, ?_⟩
        · omega
        have hi_ : i = v34.line.length := by omega
        have hob_ : ob = oa ++ edS v34.hold [] v34.line := by rw [hfb, hi_, List.take_length]
        · exact ⟨(k + 1), vb, sb, ob, rfl, hH45, (by omega), (by have h8_ := edgK_len hsz hS32 v34.line.length; rw [List.take_length] at h8_; rw [hob_, List.length_append]; omega), (hob), (by rw [hob_, edges_step (show (namesS v.keys)[k]? = some _ from hx29) hS32, ← hfa]), e42_0, e42_2, e42_3, e42_12, e42_13, rfl⟩
  · -- not: (k : Int) < (((namesS v.keys).length : Nat) : Int)
    refine wp_exit ?_
    refine t_exit (t_exit (x_in (?_)))
    refine t_norm (hK6 _ _ ?_)
    refine wp_seq_k fun K114 hK114 => ?_
    refine c_region ?_
    refine s_op (o_move (v := va) e14_3 ?_)
    refine s_op (o_assign (v := va) rfl ?_)
    refine s_nil ?_
    refine t_norm (hK114 _ _ ?_)
    refine wp_ret ?_
    refine c_ret1 Try.results45  (v := va) rfl ?_
    have q115 : (edgesS v.keys) = oa := by (have he_ : k = (namesS v.keys).length := by omega); rw [edges_eq, hfa, he_, List.take_length]
    have hH116 : Has E w17 [sa, R] := ((hH18.front 2 rfl).front 1 rfl).first 2 rfl
    exact ⟨_, _, rfl, (by rw [q115]; exact hoa), hH116⟩
end Go.Q
namespace Go.Q
structure LkB (t : Tab) (n : Nat) : Prop where
  len : t.length ≤ n
  ent : ∀ p ∈ t, p.1.length ≤ 100 ∧ p.2.hold.length + p.2.line.length ≤ n
theorem LkB.nil : LkB [] 0 := ⟨by simp, by simp⟩
theorem LkB.mono {t : Tab} {n m : Nat} (h : LkB t n) (hm : n ≤ m) : LkB t m := ⟨Nat.le_trans h.len hm, fun p hp => ⟨(h.ent p hp).1, Nat.le_trans (h.ent p hp).2 hm⟩⟩
theorem LkB.hkl {t : Tab} {n : Nat} (h : LkB t n) : ∀ p_ ∈ t, p_.1.length ≤ 1000 := fun p hp => Nat.le_trans (h.ent p hp).1 (by decide)
theorem LkB.hkn {t : Tab} {n : Nat} (h : LkB t n) (hn : n ≤ 1000) : t.length ≤ 1000 := Nat.le_trans h.len hn
theorem LkB.sz {t : Tab} {n : Nat} (h : LkB t n) (hn : n ≤ 1000) : szT t := fun p hp => Nat.le_trans (h.ent p hp).2 hn
theorem insAt_len {α : Type} (l : List α) (i : Nat) (p : α) : (insAt l i p).length = l.length + 1 := by
  unfold insAt; simp only [List.length_append, List.length_take, List.length_drop, List.length_singleton]; omega
theorem waitS_len (h l : List Plc) (p : Plc) : (waitS h l p).length = l.length + 1 := by
  unfold waitS; split
  · simp
  · split
    · simp
    · exact insAt_len _ _ _
theorem askE_len (e : Ent) (p : Plc) : (askE e p).1.hold.length + (askE e p).1.line.length ≤ e.hold.length + e.line.length + 1 := by
  unfold askE; split
  · show e.hold.length + e.line.length ≤ _; omega
  · split
    · have := holdS_len e.hold p; simp only; omega
    · have := waitS_len e.hold e.line p; simp only; omega
theorem entOf_len {t : Tab} {n : Nat} (h : LkB t n) (k : Bs) : (entOf t k).hold.length + (entOf t k).line.length ≤ n := by
  cases hg : getB t k with
  | none => rw [ent_none hg]; simp
  | some e => rw [ent_some hg]; exact (h.ent _ (getB_memp hg)).2
theorem LkB.ask {t : Tab} {n : Nat} (h : LkB t n) {o : Int} {k : Bs} {wr : Bool} (hk : k.length ≤ 100) : LkB (askS t o k wr).1 (n + 1) := by
  unfold askS
  split
  · exact h.mono (by omega)
  · split
    · exact h.mono (by omega)
    · refine ⟨?_, fun p hp => ?_⟩
      · have := (putB_len k (askE (entOf t k) ⟨k, wr, o⟩).1 t).1; have := h.len; simp only; omega
      · rcases mem_putB hp with g | g
        · have := h.ent p g; exact ⟨this.1, by omega⟩
        · have h1 := askE_len (entOf t k) ⟨k, wr, o⟩
          have h2 := entOf_len h k
          rw [g]; exact ⟨hk, by simp only; omega⟩
theorem delB_len {κ β : Type} [DecidableEq κ] (k : κ) (l : List (κ × β)) : (delB l k).length ≤ l.length := (delB_sub k l).length_le
theorem leaveF_ind {all : Bool} {ow : List Int} (Q : Tab → Prop) (hs : ∀ t k e, Q t → getB t k = some e → Q (setE t k ⟨(leftE all ow e).2.1, (leftE all ow e).2.2⟩)) :
    ∀ (ks : List Bs) (t : Tab), Q t → ks.Nodup → (t.map (·.1)).Nodup → (∀ y ∈ ks, (getB t y).isSome = true) → Q (leaveF all ow t ks).1
  | [], t, h, _, _, _ => h
  | k :: ks, t, h, hn, hd, hi => by
    obtain ⟨e, he⟩ := Option.isSome_iff_exists.1 (hi k (List.mem_cons_self ..))
    have hn' := List.nodup_cons.1 hn
    rw [leaveF, ent_some he]
    have hks : ∀ y ∈ ks, (getB (setE t k ⟨(leftE all ow e).2.1, (leftE all ow e).2.2⟩) y).isSome = true := fun y hy =>
      leave_keep (y := y) (x := k) (b := (leftE all ow e).2.1 = []) (fun g => hn'.1 (by rw [← g]; exact hy)) (hi y (List.mem_cons_of_mem _ hy)) hd (by unfold setE; rfl)
    refine leaveF_ind Q hs ks _ (hs t k e h he) hn'.2 ?_ hks
    unfold setE
    have hp : ((putB t k (⟨(leftE all ow e).2.1, (leftE all ow e).2.2⟩ : Ent)).map (·.1)).Nodup := by
      rw [putB_keys, if_pos (getB_mem.1 (by rw [he]; rfl))]; exact hd
    split
    · exact hp.sublist ((delB_sub k _).map _)
    · exact hp
theorem leave_ind {all : Bool} {ow : List Int} {t : Tab} (Q : Tab → Prop) (hs : ∀ t k e, Q t → getB t k = some e → Q (setE t k ⟨(leftE all ow e).2.1, (leftE all ow e).2.2⟩)) (h : Q t) (hd : (t.map (·.1)).Nodup) : Q (leaveS all ow t).1 :=
  leaveF_ind Q hs _ t h (names_nodup hd) hd fun y hy => getB_mem.2 (names_mem.1 hy)
theorem LkB.leave {t : Tab} {n : Nat} (h : LkB t n) (hd : (t.map (·.1)).Nodup) {all : Bool} {ow : List Int} : LkB (leaveS all ow t).1 n := by
  refine leave_ind (fun t => LkB t n) (fun t k e h he => ?_) h hd
  have h1 := (leftE_len all ow e).1
  have h2 : k.length ≤ 100 ∧ e.hold.length + e.line.length ≤ n := h.ent _ (getB_memp he)
  have h3 : LkB (putB t k (⟨(leftE all ow e).2.1, (leftE all ow e).2.2⟩ : Ent)) n := ⟨by rw [putB_same he]; exact h.len, fun p hp => by
    rcases mem_putB hp with g | g
    · exact h.ent p g
    · rw [g]; exact ⟨h2.1, by simp only; omega⟩⟩
  unfold setE; split
  · exact ⟨Nat.le_trans (delB_len _ _) h3.len, fun p hp => h3.ent p (mem_delB hp)⟩
  · exact h3
theorem ask_nodup {t : Tab} (h : (t.map (·.1)).Nodup) {o : Int} {k : Bs} {wr : Bool} : ((askS t o k wr).1.map (·.1)).Nodup := by
  unfold askS; split
  · exact h
  · split
    · exact h
    · simp only; rw [putB_keys]; split
      · exact h
      · rename_i g; rw [List.nodup_append]; exact ⟨h, by simp, fun a ha b hb e => g (by rw [List.mem_singleton] at hb; rw [← hb, ← e]; exact ha)⟩
theorem set_nodup {t : Tab} (h : (t.map (·.1)).Nodup) {k : Bs} {e e' : Ent} (hg : getB t k = some e) : ((setE t k e').map (·.1)).Nodup := by
  have hp : ((putB t k e').map (·.1)).Nodup := by rw [putB_keys, if_pos (getB_mem.1 (by rw [hg]; rfl))]; exact h
  unfold setE; split
  · exact hp.sublist ((delB_sub k _).map _)
  · exact hp
theorem leave_nodup {t : Tab} (h : (t.map (·.1)).Nodup) {all : Bool} {ow : List Int} : ((leaveS all ow t).1.map (·.1)).Nodup :=
  leave_ind (fun t => (t.map (·.1)).Nodup) (fun _ _ _ h hg => set_nodup h hg) h h
/-! nobody waits who may have it -/
def Stopped (e : Ent) : Prop := e.hold ≠ [] ∧ (e.line = [] ∨ ∃ x, e.line[0]? = some x ∧ freeS e.hold x = false)
theorem grant_stops : ∀ (l h : List Plc), (grantS h l).2.2 = [] ∨ ∃ x, (grantS h l).2.2[0]? = some x ∧ freeS (grantS h l).2.1 x = false
  | [], h => .inl rfl
  | p :: t, h => by
    rw [grantS]
    split
    · exact grant_stops t (holdS h p)
    · rename_i g; exact .inr ⟨p, rfl, by simpa using g⟩
theorem leftE_stopped {all : Bool} {ow : List Int} {e : Ent} (h : (leftE all ow e).2.1 ≠ []) : Stopped ⟨(leftE all ow e).2.1, (leftE all ow e).2.2⟩ := ⟨h, grant_stops _ _⟩
def LkS (t : Tab) : Prop := ∀ p ∈ t, Stopped p.2
theorem LkS.leave {t : Tab} (h : LkS t) (hd : (t.map (·.1)).Nodup) {all : Bool} {ow : List Int} : LkS (leaveS all ow t).1 := by
  refine (leave_ind (fun t => LkS t ∧ (t.map (·.1)).Nodup) (fun t k e h he => ⟨?_, set_nodup h.2 he⟩) ⟨h, hd⟩ hd).1
  intro p hp
  by_cases hz : (leftE all ow e).2.1 = []
  · unfold setE at hp
    rw [if_pos hz] at hp
    have hp2 := mem_delB hp
    rcases mem_putB hp2 with g | g
    · exact h.1 p g
    · exfalso
      have hnd : ((putB t k (⟨(leftE all ow e).2.1, (leftE all ow e).2.2⟩ : Ent)).map (·.1)).Nodup := by rw [putB_keys, if_pos (getB_mem.1 (by rw [he]; rfl))]; exact h.2
      have h3 : (getB (delB (putB t k (⟨(leftE all ow e).2.1, (leftE all ow e).2.2⟩ : Ent)) k) k) = none := by rw [getB_del _ _ _ hnd, if_pos rfl]
      have h4 := getB_mem.2 (List.mem_map.2 ⟨p, hp, rfl⟩)
      rw [show p.1 = k by rw [g], h3] at h4; cases h4
  · unfold setE at hp
    rw [if_neg hz] at hp
    rcases mem_putB hp with g | g
    · exact h.1 p g
    · rw [g]; exact leftE_stopped hz
theorem free_nil (p : Plc) : freeS [] p = true := rfl
theorem clash_comm (p q : Plc) : clashS p q = clashS q p := by unfold clashS; rw [Bool.or_comm, decide_eq_decide.2 ⟨Ne.symm, Ne.symm⟩]
theorem waitS_head {h l : List Plc} {p : Plc} (hs : l = [] ∨ ∃ x, l[0]? = some x ∧ freeS h x = false) (hp : freeS h p = false ∨ (atS h p.own < 0 ∧ l ≠ [])) : ∃ x, (waitS h l p)[0]? = some x ∧ freeS h x = false := by
  rcases hs with rfl | ⟨x, hx, hf⟩
  · have hp := hp.resolve_right (fun g => g.2 rfl)
    refine ⟨p, ?_, hp⟩
    unfold waitS; split
    · rfl
    · split
      · rfl
      · simp [insAt]
  · obtain ⟨y, l', rfl⟩ : ∃ y l', l = y :: l' := by cases l with
      | nil => simp at hx
      | cons a b => exact ⟨a, b, rfl⟩
    obtain rfl : y = x := by simpa using hx
    unfold waitS
    by_cases g : atS h p.own < 0
    · rw [if_pos g]; exact ⟨y, by simp, hf⟩
    · rw [if_neg g]
      have hp := hp.resolve_right (fun g' => g g'.1)
      split
      · exact ⟨y, by simp, hf⟩
      · unfold insAt
        generalize (lineS h (y :: l')).toNat = i
        cases i with
        | zero => exact ⟨p, by simp, hp⟩
        | succ i => exact ⟨y, by simp, hf⟩
theorem set_ne {α : Type} {l : List α} {i : Nat} {a : α} (h : l ≠ []) : l.set i a ≠ [] := by intro e; apply h; have := congrArg List.length e; rw [List.length_set] at this; exact List.eq_nil_of_length_eq_zero (by simpa using this)
theorem holdS_ne (h : List Plc) (p : Plc) : holdS h p ≠ [] := by
  unfold holdS; split
  · rename_i g
    have := atS_lt h p.own
    exact set_ne (fun e => by rw [e, at_nil] at g; omega)
  · simp
/-- who is held back is held back still, where one more is held, or for writing -/
theorem hold_stop {h : List Plc} {p x : Plc} (hx : freeS h x = false) (hp : 0 ≤ atS h p.own → ∀ q, h[(atS h p.own).toNat]? = some q → (q.wr = true → p.wr = true) ∧ q.own = p.own) : freeS (holdS h p) x = false := by
  unfold freeS at *
  simp only [Bool.not_eq_false', List.any_eq_true] at *
  obtain ⟨q, hq, hc⟩ := hx
  unfold holdS
  split
  · rename_i g
    have hlt := (atS_lt h p.own).2
    by_cases e : h[(atS h p.own).toNat]? = some q
    · obtain ⟨h1, h2⟩ := hp g q e
      refine ⟨p, List.mem_iff_getElem?.2 ⟨(atS h p.own).toNat, by rw [List.getElem?_set_self (by omega)]⟩, ?_⟩
      unfold clashS at *
      simp only [Bool.and_eq_true, decide_eq_true_eq, Bool.or_eq_true] at *
      exact ⟨by rw [← h2]; exact hc.1, hc.2.imp id h1⟩
    · obtain ⟨j, hj⟩ := List.mem_iff_getElem?.1 hq
      refine ⟨q, List.mem_iff_getElem?.2 ⟨j, ?_⟩, hc⟩
      rw [List.getElem?_set_ne (fun e' => e (by rw [e']; exact hj))]; exact hj
  · exact ⟨q, List.mem_append_left _ hq, hc⟩
theorem at_own {h : List Plc} {o : Int} {q : Plc} (h0 : 0 ≤ atS h o) (hq : h[(atS h o).toNat]? = some q) : q.own = o := by
  have := at_pos h0 hq
  have := List.find?_some this
  simpa [ownIs] using this
theorem LkS.ask {t : Tab} (h : LkS t) {o : Int} {k : Bs} {wr : Bool} : LkS (askS t o k wr).1 := by
  unfold askS
  split
  · exact h
  · split
    · exact h
    · intro p hp
      rcases mem_putB hp with g | g
      · exact h p g
      · rw [g]
        show Stopped (askE (entOf t k) ⟨k, wr, o⟩).1
        have hst : (entOf t k) = ⟨[], []⟩ ∨ Stopped (entOf t k) := by
          cases hg : getB t k with
          | none => exact .inl (ent_none hg)
          | some e => rw [ent_some hg]; exact .inr (h _ (getB_memp hg))
        unfold askE
        split
        · rename_i g1
          rcases hst with e | e
          · rw [e] at g1; exact absurd g1.1 (by rw [at_nil]; decide)
          · exact e
        · rename_i g1
          split
          · rename_i g2
            refine ⟨holdS_ne _ _, ?_⟩
            rcases hst with e | ⟨e1, e2⟩
            · rw [e]; exact .inl rfl
            · rcases e2 with e2 | ⟨x, hx, hf⟩
              · exact .inl e2
              · refine .inr ⟨x, hx, hold_stop hf fun h0 q hq => ⟨fun hw => ?_, at_own h0 hq⟩⟩
                cases wr with
                | true => rfl
                | false => exact absurd ⟨h0, .inr rfl⟩ g1
          · rename_i g2
            rcases hst with e | ⟨e1, e2⟩
            · rw [e] at g2; exact absurd ⟨free_nil _, .inr rfl⟩ g2
            · refine ⟨e1, .inr (waitS_head e2 ?_)⟩
              cases hf : freeS (entOf t k).hold ⟨k, wr, o⟩ with
              | false => exact .inl rfl
              | true =>
                refine .inr ⟨?_, fun e => g2 ⟨hf, .inr e⟩⟩
                rcases Int.lt_or_le (atS (entOf t k).hold o) 0 with g | g
                · exact g
                · exact absurd ⟨hf, .inl g⟩ g2
/-! who asks, must wait, and quits -/
theorem putB_self {κ β : Type} [DecidableEq κ] {k : κ} {e : β} : ∀ {t : List (κ × β)}, getB t k = some e → putB t k e = t
  | [], h => by simp [getB] at h
  | (a, x) :: t, h => by
    rw [getB] at h; rw [putB]; split
    · rename_i g; rw [if_pos g] at h; cases h; rw [g]
    · rename_i g; rw [if_neg g] at h; rw [putB_self h]
theorem fil_none {l : List Plc} {o : Int} (h : l.find? (ownIs o) = none) : l.filter (fun p => !goneS [o] p) = l := by
  rw [List.find?_eq_none] at h
  exact List.filter_eq_self.2 fun a ha => by have := h a ha; simpa [goneS, ownIs] using this
theorem fil_waitS {h l : List Plc} {p : Plc} (hn : l.find? (ownIs p.own) = none) : (waitS h l p).filter (fun q => !goneS [p.own] q) = l := by
  have hg : goneS [p.own] p = true := by simp [goneS]
  have h1 := fil_none hn
  unfold waitS insAt
  split
  · rw [List.filter_append, h1]; simp [hg]
  · split
    · rw [List.filter_append, h1]; simp [hg]
    · rw [List.filter_append, List.filter_append]
      simp only [List.filter_cons, hg, Bool.not_true, Bool.false_eq_true, if_false, List.filter_nil, List.append_nil]
      rw [← List.filter_append, List.take_append_drop, h1]
theorem waits_find {t : Tab} {o : Int} (h : waitsS t o = none) {y : Bs} : (entOf t y).line.find? (ownIs o) = none := by
  unfold waitsS at h
  rw [List.findSome?_eq_none_iff] at h
  by_cases hy : y ∈ namesS t
  · exact h y hy
  · have : getB t y = none := getB_none (fun g => hy (names_mem.2 g))
    rw [ent_none this]; rfl
theorem quit_same {t : Tab} {o : Int} (hs : LkS t) (hw : waitsS t o = none) : ∀ ks : List Bs, (∀ y ∈ ks, (getB t y).isSome = true) → leaveF false [o] t ks = (t, [])
  | [], _ => rfl
  | k :: ks, hi => by
    obtain ⟨e, he⟩ := Option.isSome_iff_exists.1 (hi k (List.mem_cons_self ..))
    have hst := hs _ (getB_memp he)
    have hl : leftE false [o] e = ([], e.hold, e.line) := by
      unfold leftE
      have := waits_find hw (y := k)
      rw [ent_some he] at this
      rw [fil_none this]; exact grant_stop hst.2
    rw [leaveF, ent_some he, hl]
    have h2 : setE t k ⟨e.hold, e.line⟩ = t := by
      unfold setE; rw [if_neg hst.1]; exact putB_self he
    simp only [h2, quit_same hs hw ks fun y hy => hi y (List.mem_cons_of_mem _ hy)]; rfl
theorem quit_back {t : Tab} {o : Int} {k : Bs} {e : Ent} {p : Plc} (hs : LkS t) (hw : waitsS t o = none) (he : getB t k = some e) (hp : p.own = o) : ∀ ks : List Bs, (∀ y ∈ ks, (getB t y).isSome = true) → ks.Nodup →
    leaveF false [o] (putB t k ⟨e.hold, waitS e.hold e.line p⟩) ks = (if k ∈ ks then t else putB t k ⟨e.hold, waitS e.hold e.line p⟩, [])
  | [], _, _ => by simp [leaveF]
  | y :: ks, hi, hn => by
    have hn' := List.nodup_cons.1 hn
    by_cases hy : y = k
    · subst hy
      have hst := hs _ (getB_memp he)
      have h0 := waits_find hw (y := y)
      rw [ent_some he] at h0
      have hl : leftE false [o] ⟨e.hold, waitS e.hold e.line p⟩ = ([], e.hold, e.line) := by
        unfold leftE
        simp only [Bool.false_eq_true, if_false]
        subst hp
        rw [fil_waitS h0]; exact grant_stop hst.2
      have hg : getB (putB t y (⟨e.hold, waitS e.hold e.line p⟩ : Ent)) y = some ⟨e.hold, waitS e.hold e.line p⟩ := by rw [getB_put, if_pos rfl]
      rw [leaveF, ent_some hg, hl]
      have h2 : setE (putB t y (⟨e.hold, waitS e.hold e.line p⟩ : Ent)) y ⟨e.hold, e.line⟩ = t := by
        unfold setE; rw [if_neg hst.1, putB_putB]; exact putB_self he
      simp only [h2, quit_same hs hw ks fun z hz => hi z (List.mem_cons_of_mem _ hz)]
      simp
    · obtain ⟨f, hf⟩ := Option.isSome_iff_exists.1 (hi y (List.mem_cons_self ..))
      have hst := hs _ (getB_memp hf)
      have h0 := waits_find hw (y := y)
      rw [ent_some hf] at h0
      have hl : leftE false [o] f = ([], f.hold, f.line) := by
        unfold leftE; rw [fil_none h0]; exact grant_stop hst.2
      have hg : getB (putB t k (⟨e.hold, waitS e.hold e.line p⟩ : Ent)) y = some f := by rw [getB_put, if_neg hy]; exact hf
      rw [leaveF, ent_some hg, hl]
      have h2 : setE (putB t k (⟨e.hold, waitS e.hold e.line p⟩ : Ent)) y ⟨f.hold, f.line⟩ = putB t k ⟨e.hold, waitS e.hold e.line p⟩ := by
        unfold setE; rw [if_neg hst.1]; exact putB_self hg
      simp only [h2, quit_back hs hw he hp ks (fun z hz => hi z (List.mem_cons_of_mem _ hz)) hn'.2]
      have : (k ∈ y :: ks) ↔ k ∈ ks := by rw [List.mem_cons]; exact ⟨fun g => g.resolve_left (fun e => hy e.symm), .inr⟩
      simp only [this, List.nil_append]
theorem ask_busy {t : Tab} {o : Int} {k : Bs} {wr : Bool} (h : (askS t o k wr).2 = 10) : waitsS t o = none ∧ ∃ e, getB t k = some e ∧ (askS t o k wr).1 = putB t k ⟨e.hold, waitS e.hold e.line ⟨k, wr, o⟩⟩ := by
  unfold askS at h ⊢
  split at h
  · exact absurd (show (1 : Int) = 10 from h) (by decide)
  · rename_i h0
    rw [if_neg h0]
    split at h
    · exact absurd (show (12 : Int) = 10 from h) (by decide)
    · rename_i hw
      rw [if_neg hw]
      refine ⟨by simpa using hw, ?_⟩
      simp only at h ⊢
      cases hg : getB t k with
      | none =>
        rw [ent_none hg] at h
        unfold askE at h
        rw [if_neg (fun g => absurd g.1 (by rw [at_nil]; decide)), if_pos ⟨free_nil _, .inr rfl⟩] at h
        exact absurd (show (0 : Int) = 10 from h) (by decide)
      | some e =>
        refine ⟨e, rfl, ?_⟩
        rw [ent_some hg] at h ⊢
        unfold askE at h ⊢
        split at h
        · exact absurd (show (0 : Int) = 10 from h) (by decide)
        · rename_i g1
          split at h
          · exact absurd (show (0 : Int) = 10 from h) (by decide)
          · rename_i g2
            rw [if_neg g1, if_neg g2]
theorem quits {t : Tab} {o : Int} {k : Bs} {wr : Bool} (hs : LkS t) (hd : (t.map (·.1)).Nodup) (h : (askS t o k wr).2 = 10) : leaveS false [o] (askS t o k wr).1 = (t, []) ∧ (linS (askS t o k wr).1 k).length = (linS t k).length + 1 := by
  obtain ⟨hw, e, he, ht⟩ := ask_busy h
  rw [ht]
  have hk : namesS (putB t k (⟨e.hold, waitS e.hold e.line ⟨k, wr, o⟩⟩ : Ent)) = namesS t := by
    unfold namesS; rw [putB_keys, if_pos (getB_mem.1 (by rw [he]; rfl))]
  refine ⟨?_, ?_⟩
  · unfold leaveS
    rw [hk, quit_back hs hw he rfl _ (fun y hy => getB_mem.2 (names_mem.1 hy)) (names_nodup hd), if_pos (names_mem.2 (getB_mem.1 (by rw [he]; rfl)))]
  · unfold linS
    rw [List.length_map, List.length_map, ent_some he, ent_some (show getB (putB t k (⟨e.hold, waitS e.hold e.line ⟨k, wr, o⟩⟩ : Ent)) k = _ from by rw [getB_put, if_pos rfl])]
    exact waitS_len _ _ _
end Go.Q
namespace Go.Q
structure LAct where
  kind : Int
  own : Int
  key : Bs
  wr : Bool
  mv : Value
  more : List Int
def laC (a : LAct) : List Value := [iV a.kind, iV a.own, S a.key, .bool a.wr, a.mv]
theorem laC_len (a : LAct) : (laC a).length = 5 := rfl
def LaOk (R : List Hp) (a : LAct) : Prop := Ints R a.mv a.more
theorem LaOk.mono {R R' : List Hp} {a : LAct} (h : LaOk R a) (hs : R ⊆ R') : LaOk R' a := Sl.mono h hs
def LFin (a : LAct) : Prop := a.key.length ≤ 100 ∧ a.more.length ≤ 10
def LFine (l : List LAct) : Prop := l.length ≤ 60 ∧ ∀ a ∈ l, LFin a
theorem LFine.snoc {l : List LAct} {k : Nat} {x : LAct} (h : ∀ a ∈ l.take k, LFin a) (hx : l[k]? = some x) (hf : LFin x) : ∀ a ∈ l.take (k + 1), LFin a := by
  rw [List.take_add_one, hx]
  intro y hy
  rcases List.mem_append.1 hy with g | g
  · exact h y g
  · simp at g; rw [g]; exact hf
theorem names_one (k : Bs) (e : Ent) : namesS [(k, e)] = [k] := by simp [namesS]
def awT1 : Tab := [([97], ⟨[⟨[97], false, 1⟩], []⟩)]
def awT2 : Tab := [([97], ⟨[⟨[97], false, 1⟩], [⟨[97], true, 2⟩]⟩)]
def awT3 : Tab := [([97], ⟨[⟨[97], false, 1⟩], [⟨[97], true, 2⟩, ⟨[97], false, 3⟩]⟩)]
def awT4 : Tab := [([97], ⟨[⟨[97], true, 2⟩], [⟨[97], false, 3⟩]⟩)]
def awT5 : Tab := [([97], ⟨[⟨[97], false, 3⟩], []⟩)]
theorem aw1 : askS [] 1 [97] false = (awT1, 0) := by
  unfold askS waitsS; rw [show namesS [] = [] by simp [namesS]]; rfl
theorem aw2 : askS awT1 2 [97] true = (awT2, 10) := by
  unfold askS waitsS; rw [show namesS awT1 = [[97]] from names_one _ _]; rfl
theorem aw3 : askS awT2 3 [97] false = (awT3, 10) := by
  unfold askS waitsS; rw [show namesS awT2 = [[97]] from names_one _ _]; rfl
theorem aw4 : leaveS true [1] awT3 = (awT4, [2]) := by
  unfold leaveS; rw [show namesS awT3 = [[97]] from names_one _ _]; rfl
theorem aw5 : leaveS true [2] awT4 = (awT5, [3]) := by
  unfold leaveS; rw [show namesS awT4 = [[97]] from names_one _ _]; rfl
theorem aw6 : (holdsC awT5 3).length = 1 := by
  unfold holdsC; rw [show namesS awT5 = [[97]] from names_one _ _]; decide
end Go.Q
namespace Go.Q
theorem LkS.nil : LkS [] := by intro p hp; cases hp
end Go.Q
namespace Go.Q
theorem linS_le {t : Tab} (h : szT t) (k : Bs) : (linS t k).length ≤ 1000 := by
  unfold linS
  rw [List.length_map]
  cases hg : getB t k with
  | none => rw [ent_none hg]; simp
  | some e => rw [ent_some hg]; have := h.get hg; omega
end Go.Q
namespace Go.Q
open Go.Proofs
set_option linter.unusedVariables false
set_option maxRecDepth 100000
attribute [local irreducible] wpList OK Code.wp
set_option maxHeartbeats 4000000 in
theorem same_c {E w : World} {R : List Hp} (hH : Has E w [R]) {va vb : Value} {a b : List Int} (hva : Ints R va a) (hvb : Ints R vb b) :
    Calls Try.prog 49 #[va, vb] w fun e w' => e = .returned (.bool (decide (a = b))) ∧ Has E w' [R] := by
  have hna := hva.le
  have hnb := hvb.le
  refine c_enter (args := [va, vb]) Try.func49 rfl Try.ntmps49 (by simp) ?_
  refine wp_seq_k fun K1 hK1 => ?_
  refine c_region ?_
  refine s_op (o_assign (v := (.bool false)) rfl ?_)
  refine s_nil ?_
  refine t_norm (hK1 _ _ ?_)
  refine wp_seq_k fun K2 hK2 => ?_
  refine wp_seq_k fun K3 hK3 => ?_
  refine c_region ?_
  refine s_op (o_move (v := va) rfl ?_)
  refine s_op (o_lenS Try.underlying54 rfl hva ?_)
  refine s_op (o_move (v := vb) rfl ?_)
  refine s_op (o_lenS Try.underlying54 rfl hvb ?_)
  refine s_op (o_neq (a := ((a.length : Nat) : Int)) (b := ((b.length : Nat) : Int)) rfl rfl ?_)
  refine s_nil ?_
  refine t_norm (hK3 _ _ ?_)
  refine c_cond rfl (fun h4 => ?_) (fun h4 => ?_)
  · -- ((a.length : Nat) : Int) ≠ ((b.length : Nat) : Int)
    refine wp_seq_k fun K5 hK5 => ?_
    refine c_region ?_
    refine s_op (o_assign (v := (.bool false)) rfl ?_)
    refine s_nil ?_
    refine t_norm (hK5 _ _ ?_)
    refine wp_ret ?_
    refine t_ret (c_ret1 Try.results49  (v := (.bool false)) rfl ?_)
    have e : a ≠ b := fun e => by
      subst e
      omega
    exact ⟨by rw [decide_eq_false e], hH⟩
  · -- not: ((a.length : Nat) : Int) ≠ ((b.length : Nat) : Int)
    refine wp_skip ?_
    refine t_norm (hK2 _ _ ?_)
    refine wp_seq_k fun K6 hK6 => ?_
    refine wp_seq_k fun K7 hK7 => ?_
    refine c_region ?_
    refine s_op (o_assign (v := (.int .i64 0)) rfl ?_)
    refine s_nil ?_
    refine t_norm (hK7 _ _ ?_)
    refine wp_block ?_
    let I9 : Nat → (Nat → Value) → World → Prop := fun n__ r__ w__ => ∃ (k : Nat), n__ = a.length - k ∧ Has E w__ [R] ∧ (k ≤ a.length) ∧ (∀ j, j < k → a[j]? = b[j]?) ∧ r__ 0 = va ∧ r__ 1 = vb ∧ r__ 5 = (.int .i64 (k : Int)) ∧ r__ 10 = (.bool (decide (((a.length : Nat) : Int) ≠ ((b.length : Nat) : Int))))
    refine c_loop I9 _ ⟨0, rfl, hH, Nat.zero_le _, (by omega), rfl, rfl, rfl, rfl⟩ ?_
    rintro n_ r12 w10 ⟨k, rfl, hH11, hk, he, e8_0, e8_1, e8_5, e8_10⟩
    refine wp_seq_k fun K13 hK13 => ?_
    refine wp_seq_k fun K14 hK14 => ?_
    refine c_region ?_
    refine s_op (o_move (v := (.int .i64 (k : Int))) e8_5 ?_)
    refine s_op (o_move (v := va) e8_0 ?_)
    refine s_op (o_lenS Try.underlying54 rfl hva ?_)
    refine s_op (o_lss (a := (k : Int)) (b := ((a.length : Nat) : Int)) rfl rfl ?_)
    refine s_nil ?_
    refine t_norm (hK14 _ _ ?_)
    refine c_cond rfl (fun h15 => ?_) (fun h15 => ?_)
    · -- (k : Int) < ((a.length : Nat) : Int)
      refine wp_skip ?_
      refine t_norm (hK13 _ _ ?_)
      refine wp_seq_k fun K16 hK16 => ?_
      refine wp_block ?_
      refine wp_seq_k fun K17 hK17 => ?_
      refine Rest.region mixed (by kernel_rfl) ?_
      have hH18 : Has E { w10 with drawn := w10.drawn + 1 } [R] := Has0.drew hH11 _
      refine Rest.phaseA (fun w_ => Has E w_ [R]) 0 8 8 rfl (by decide) (by kernel_rfl) ?_
      refine a_op 0 rfl (by kernel_rfl) (fun w_ h_ => o_move (v := va) e8_0 ⟨rfl, rfl⟩) ?_
      refine a_op 1 rfl (by kernel_rfl) (fun w_ h_ => o_move (v := (.int .i64 (k : Int))) e8_5 ⟨rfl, rfl⟩) ?_
      obtain ⟨x22, hx23⟩ : ∃ x_, a[((k : Int)).toNat]? = some x_ := get_some (by omega)
      obtain ⟨b19, o20, hc21, ho24⟩ := ix_ex1 Try.underlying54 ti3 hva (by omega) hx23
      refine a_op 2 rfl (by kernel_rfl) (fun w_ h_ => ho24 rfl rfl ⟨rfl, rfl⟩) ?_
      refine a_op 3 rfl (by kernel_rfl) (fun w_ h_ => o_load1 (v := (.int .i64 x22)) Try.underlying3 rfl rfl h_ (seg_sub 0 rfl) hc21 ⟨rfl, rfl⟩) ?_
      refine a_op 4 rfl (by kernel_rfl) (fun w_ h_ => o_move (v := vb) e8_1 ⟨rfl, rfl⟩) ?_
      refine a_op 5 rfl (by kernel_rfl) (fun w_ h_ => o_move (v := (.int .i64 (k : Int))) e8_5 ⟨rfl, rfl⟩) ?_
      obtain ⟨x28, hx29⟩ : ∃ x_, b[((k : Int)).toNat]? = some x_ := get_some (by omega)
      obtain ⟨b25, o26, hc27, ho30⟩ := ix_ex1 Try.underlying54 ti3 hvb (by omega) hx29
      refine a_op 6 rfl (by kernel_rfl) (fun w_ h_ => ho30 rfl rfl ⟨rfl, rfl⟩) ?_
      refine a_op 7 rfl (by kernel_rfl) (fun w_ h_ => o_load1 (v := (.int .i64 x28)) Try.underlying3 rfl rfl h_ (seg_sub 0 rfl) hc27 ⟨rfl, rfl⟩) ?_
      refine a_done (by kernel_rfl) hH18 ?_
      refine r_op 8 rfl (by kernel_rfl) (o_neq (a := x22) (b := x28) rfl rfl ?_)
      refine Rest.done (by kernel_rfl) ?_
      refine t_norm (hK17 _ _ ?_)
      refine c_cond rfl (fun h31 => ?_) (fun h31 => ?_)
      · -- x22 ≠ x28
        refine wp_seq_k fun K32 hK32 => ?_
        refine c_region ?_
        refine s_op (o_assign (v := (.bool false)) rfl ?_)
        refine s_nil ?_
        refine t_norm (hK32 _ _ ?_)
        refine wp_ret ?_
        refine b_ret (t_ret (t_ret (b_ret (t_ret (c_ret1 Try.results49  (v := (.bool false)) rfl ?_)))))
        have e : a ≠ b := fun e => by
          subst e
          have e1 := hx23.symm.trans hx29
          cases e1
          omega
        exact ⟨by rw [decide_eq_false e], hH18⟩
      · -- not: x22 ≠ x28
        refine wp_skip ?_
        refine b_norm ?_
        refine t_norm (hK16 _ _ ?_)
        refine c_region ?_
        refine s_op (o_move (v := (.int .i64 (k : Int))) e8_5 ?_)
        refine s_op (o_add (a := (k : Int)) (b := 1) rfl rfl (w64 (by omega) (by omega)) ?_)
        refine s_op (o_assign (v := (.int .i64 ((k : Int) + 1))) rfl ?_)
        refine s_nil ?_
        refine t_norm ⟨a.length - (k + 1), _, rfl, ?_, ?_⟩
        · omega
        · exact ⟨(k + 1), rfl, hH18, (by omega), (same_step he (by simpa using hx23) (by simpa using hx29) (by omega)), e8_0, e8_1, rfl, e8_10⟩
    · -- not: (k : Int) < ((a.length : Nat) : Int)
      refine wp_exit ?_
      refine t_exit (t_exit (x_in (?_)))
      refine t_norm (hK6 _ _ ?_)
      refine wp_seq_k fun K33 hK33 => ?_
      refine c_region ?_
      refine s_op (o_assign (v := (.bool true)) rfl ?_)
      refine s_nil ?_
      refine t_norm (hK33 _ _ ?_)
      refine wp_ret ?_
      refine c_ret1 Try.results49  (v := (.bool true)) rfl ?_
      have e : a = b := List.ext_getElem? fun j => by
        rcases Nat.lt_or_ge j k with g | g
        · exact he j g
        · rw [List.getElem?_eq_none (by omega), List.getElem?_eq_none (by omega)]
      exact ⟨by rw [decide_eq_true e], hH11⟩
set_option maxHeartbeats 4000000 in
theorem great14_c {E w : World} {R : List Hp} {v_l : Value} {l : List LAct}  (hH : Has E w [R]) (h_l : Sl R 5 v_l l.length (l.flatMap laC)) (hok : ∀ a ∈ l, LaOk R a) :
    Calls Try.prog 36 #[v_l] w fun e w' => ∃ (gb : Bool), e = .returned (.bool gb) ∧ (gb = false → LFine l) ∧ Has E w' [R] := by
  have hn_ := h_l.le
  have hml := fun (x : LAct) (hx : x ∈ l) => (hok x hx).le
  refine c_enter (args := [v_l]) Try.func36 rfl Try.ntmps36 (by simp) ?_
  refine wp_seq_k fun K1 hK1 => ?_
  refine c_region ?_
  refine s_op (o_assign (v := (.bool false)) rfl ?_)
  refine s_nil ?_
  refine t_norm (hK1 _ _ ?_)
  refine wp_seq_k fun K2 hK2 => ?_
  refine wp_seq_k fun K3 hK3 => ?_
  refine c_region ?_
  refine s_op (o_move (v := v_l) rfl ?_)
  refine s_op (o_lenS Try.underlying66 rfl h_l ?_)
  refine s_op (o_gtr (a := ((l.length : Nat) : Int)) (b := 60) rfl rfl ?_)
  refine s_nil ?_
  refine t_norm (hK3 _ _ ?_)
  refine c_cond rfl (fun h4 => ?_) (fun h4 => ?_)
  · -- 60 < ((l.length : Nat) : Int)
    refine wp_seq_k fun K5 hK5 => ?_
    refine c_region ?_
    refine s_op (o_assign (v := (.bool true)) rfl ?_)
    refine s_nil ?_
    refine t_norm (hK5 _ _ ?_)
    refine wp_ret ?_
    refine t_ret (c_ret1 Try.results36  (v := (.bool true)) rfl ?_)
    exact ⟨true, rfl, (fun g => by cases g), hH⟩
  · -- not: 60 < ((l.length : Nat) : Int)
    refine wp_skip ?_
    refine t_norm (hK2 _ _ ?_)
    refine wp_seq_k fun K6 hK6 => ?_
    refine wp_seq_k fun K7 hK7 => ?_
    refine c_region ?_
    refine s_op (o_assign (v := (.int .i64 0)) rfl ?_)
    refine s_nil ?_
    refine t_norm (hK7 _ _ ?_)
    refine wp_block ?_
    let I9 : Nat → (Nat → Value) → World → Prop := fun n__ r__ w__ => ∃ (k : Nat), n__ = l.length - k ∧ Has E w__ [R] ∧ (k ≤ l.length) ∧ (∀ a ∈ l.take k, LFin a) ∧ r__ 0 = v_l ∧ r__ 3 = (.int .i64 (k : Int)) ∧ r__ 6 = (.bool (decide (60 < ((l.length : Nat) : Int))))
    refine c_loop I9 _ ⟨0, rfl, hH, Nat.zero_le _, (by simp), rfl, rfl, rfl⟩ ?_
    rintro n_ r12 w10 ⟨k, rfl, hH11, hk, hfn, e8_0, e8_3, e8_6⟩
    refine wp_seq_k fun K13 hK13 => ?_
    refine wp_seq_k fun K14 hK14 => ?_
    refine c_region ?_
    refine s_op (o_move (v := (.int .i64 (k : Int))) e8_3 ?_)
    refine s_op (o_move (v := v_l) e8_0 ?_)
    refine s_op (o_lenS Try.underlying66 rfl h_l ?_)
    refine s_op (o_lss (a := (k : Int)) (b := ((l.length : Nat) : Int)) rfl rfl ?_)
    refine s_nil ?_
    refine t_norm (hK14 _ _ ?_)
    refine c_cond rfl (fun h15 => ?_) (fun h15 => ?_)
    · -- (k : Int) < ((l.length : Nat) : Int)
      refine wp_skip ?_
      refine t_norm (hK13 _ _ ?_)
      refine wp_seq_k fun K16 hK16 => ?_
      refine wp_block ?_
      refine wp_seq_k fun K17 hK17 => ?_
      refine c_region ?_
      refine s_op (o_move (v := v_l) e8_0 ?_)
      refine s_op (o_move (v := (.int .i64 (k : Int))) e8_3 ?_)
      obtain ⟨x21, hx22⟩ : ∃ x_, l[((k : Int)).toNat]? = some x_ := get_some (by omega)
      refine s_op (o_indexF laC_len Try.underlying66 ti71 rfl h_l rfl rfl (by omega) hx22 fun b18 o19 hc20 => ?_)
      refine s_op (o_fieldAddr (k := o19 + 2) (fun _ => by kernel_rfl) rfl ?_)
      refine s_op (o_load1 (v := (S x21.key)) Try.underlying9 rfl rfl hH11 (seg_sub 0 rfl) (CellsAt.field (k := 2) (ds := [(S x21.key)]) hc20 rfl) ?_)
      refine s_op (o_slen Try.underlying9 rfl ?_)
      refine s_op (o_gtr (a := (x21.key.length : Int)) (b := 100) rfl rfl ?_)
      refine s_op (o_move (v := (.bool (decide (100 < (x21.key.length : Int))))) rfl ?_)
      by_cases h23 : 100 < (x21.key.length : Int)
      · -- 100 < (x21.key.length : Int)
        refine s_off (b' := true) 20 rfl (congrArg Value.bool (decide_eq_true h23)) rfl ?_
        refine s_off (b' := true) 20 rfl (congrArg Value.bool (decide_eq_true h23)) rfl ?_
        refine s_off (b' := true) 20 rfl (congrArg Value.bool (decide_eq_true h23)) rfl ?_
        refine s_off (b' := true) 20 rfl (congrArg Value.bool (decide_eq_true h23)) rfl ?_
        refine s_off (b' := true) 20 rfl (congrArg Value.bool (decide_eq_true h23)) rfl ?_
        refine s_off (b' := true) 20 rfl (congrArg Value.bool (decide_eq_true h23)) rfl ?_
        refine s_off (b' := true) 20 rfl (congrArg Value.bool (decide_eq_true h23)) rfl ?_
        refine s_op (o_pick_t (u := (.bool true)) ((rfl : _ = _).trans (congrArg Value.bool (decide_eq_true h23))) rfl ?_)
        refine s_nil ?_
        refine t_norm (hK17 _ _ ?_)
        refine c_true rfl rfl ?_
        refine wp_seq_k fun K24 hK24 => ?_
        refine c_region ?_
        refine s_op (o_assign (v := (.bool true)) rfl ?_)
        refine s_nil ?_
        refine t_norm (hK24 _ _ ?_)
        refine wp_ret ?_
        refine b_ret (t_ret (t_ret (b_ret (t_ret (c_ret1 Try.results36  (v := (.bool true)) rfl ?_)))))
        exact ⟨true, rfl, (fun g => by cases g), hH11⟩
      · -- not: 100 < (x21.key.length : Int)
        refine s_on 20 rfl (congrArg Value.bool (decide_eq_false h23)) (o_move (v := v_l) e8_0 ?_)
        refine s_on 20 rfl (congrArg Value.bool (decide_eq_false h23)) (o_move (v := (.int .i64 (k : Int))) e8_3 ?_)
        refine s_on 20 rfl (congrArg Value.bool (decide_eq_false h23)) (o_indexF laC_len Try.underlying66 ti71 rfl h_l rfl rfl (by omega) hx22 fun b25 o26 hc27 => ?_)
        refine s_on 20 rfl (congrArg Value.bool (decide_eq_false h23)) (o_fieldAddr (k := o26 + 4) (fun _ => by kernel_rfl) rfl ?_)
        refine s_on 20 rfl (congrArg Value.bool (decide_eq_false h23)) (o_load1 (v := x21.mv) Try.underlying54 rfl rfl hH11 (seg_sub 0 rfl) (CellsAt.field (k := 4) (ds := [x21.mv]) hc27 rfl) ?_)
        refine s_on 20 rfl (congrArg Value.bool (decide_eq_false h23)) (o_lenS Try.underlying54 rfl (hok _ (List.mem_of_getElem? hx22)) ?_)
        refine s_on 20 rfl (congrArg Value.bool (decide_eq_false h23)) (o_gtr (a := ((x21.more.length : Nat) : Int)) (b := 10) rfl rfl ?_)
        refine s_op (o_pick_f (u := (.bool (decide (10 < ((x21.more.length : Nat) : Int))))) ((rfl : _ = _).trans (congrArg Value.bool (decide_eq_false h23))) rfl ?_)
        refine s_nil ?_
        refine t_norm (hK17 _ _ ?_)
        refine c_cond rfl (fun h28 => ?_) (fun h28 => ?_)
        · -- 10 < ((x21.more.length : Nat) : Int)
          refine wp_seq_k fun K29 hK29 => ?_
          refine c_region ?_
          refine s_op (o_assign (v := (.bool true)) rfl ?_)
          refine s_nil ?_
          refine t_norm (hK29 _ _ ?_)
          refine wp_ret ?_
          refine b_ret (t_ret (t_ret (b_ret (t_ret (c_ret1 Try.results36  (v := (.bool true)) rfl ?_)))))
          exact ⟨true, rfl, (fun g => by cases g), hH11⟩
        · -- not: 10 < ((x21.more.length : Nat) : Int)
          refine wp_skip ?_
          refine b_norm ?_
          refine t_norm (hK16 _ _ ?_)
          refine c_region ?_
          refine s_op (o_move (v := (.int .i64 (k : Int))) e8_3 ?_)
          refine s_op (o_add (a := (k : Int)) (b := 1) rfl rfl (w64 (by omega) (by omega)) ?_)
          refine s_op (o_assign (v := (.int .i64 ((k : Int) + 1))) rfl ?_)
          refine s_nil ?_
          refine t_norm ⟨l.length - (k + 1), _, rfl, ?_, ?_⟩
          · omega
          · exact ⟨(k + 1), rfl, hH11, (by omega), (LFine.snoc hfn (show l[k]? = some _ from hx22) ⟨by omega, by omega⟩), e8_0, rfl, e8_6⟩
    · -- not: (k : Int) < ((l.length : Nat) : Int)
      refine wp_exit ?_
      refine t_exit (t_exit (x_in (?_)))
      refine t_norm (hK6 _ _ ?_)
      refine wp_seq_k fun K30 hK30 => ?_
      refine c_region ?_
      refine s_op (o_assign (v := (.bool false)) rfl ?_)
      refine s_nil ?_
      refine t_norm (hK30 _ _ ?_)
      refine wp_ret ?_
      refine c_ret1 Try.results36  (v := (.bool false)) rfl ?_
      have e_ : k = l.length := by omega
      rw [e_, List.take_of_length_le (Nat.le_refl _)] at hfn
      exact ⟨false, rfl, (fun _ => ⟨by omega, hfn⟩), hH11⟩
set_option maxHeartbeats 4000000 in
theorem awake14_c {E w : World} {R : List Hp}   (hH : Has E w [R]) :
    Calls Try.prog 37 #[] w fun e w' => e = .returned (.bool true) ∧ Has E w' [R] := by
  refine c_enter (args := []) Try.func37 rfl Try.ntmps37 (by simp) ?_
  refine wp_seq_k fun K1 hK1 => ?_
  refine c_region ?_
  refine s_op (o_assign (v := (.bool false)) rfl ?_)
  refine s_nil ?_
  refine t_norm (hK1 _ _ ?_)
  refine wp_seq_k fun K2 hK2 => ?_
  refine c_region ?_
  refine s_op (o_callf (vs := #[]) ca38 rfl (args0) (new_c hH.all ) ?_)
  rintro _ w8 ⟨b3, sg4, rfl, hd5, hX6⟩
  refine ⟨_, rfl, ?_⟩
  have hH7 : Has E w8 [sg4, R] := hX6.of_all1
  refine s_op (o_assign (v := (.pointer (some ⟨b3, 0, none⟩))) rfl ?_)
  refine s_nil ?_
  refine t_norm (hK2 _ _ ?_)
  refine wp_seq_k fun K9 hK9 => ?_
  refine c_region ?_
  refine s_op (o_move (v := (.pointer (some ⟨b3, 0, none⟩))) rfl ?_)
  refine s_op (o_sight (v := (.agg #[(S [97]), (.bool false)])) (fun _ => by kernel_rfl) ?_)
  refine s_op (o_callf (vs := #[(.pointer (some ⟨b3, 0, none⟩)), (.int .i64 1), (.agg #[(S [97]), (.bool false)])]) ca39 rfl (args3 rfl rfl rfl) (ask_c (v := (⟨[]⟩ : TabS)) (o := 1) (k := [97]) (wr := false) hH7.all1 hd5 (LkB.nil.hkl) (LkB.nil.hkn (by omega)) (LkB.nil.sz (by omega))) ?_)
  rintro _ w14 ⟨sg10, rfl, hd11, hX12⟩
  refine ⟨_, rfl, ?_⟩
  have hH13 : Has E w14 [sg10, R] := hX12.of_all1
  have hb15 := LkB.nil.ask (o := 1) (k := [97]) (wr := false) (by decide)
  have hs16 := LkS.nil.ask (o := 1) (k := [97]) (wr := false)
  have hd17 := ask_nodup (o := 1) (k := [97]) (wr := false) (show (([] : Tab).map (·.1)).Nodup from List.nodup_nil)
  have hd18 : TbAt b3 sg10 (⟨awT1⟩ : TabS) := by have h9_ := hd11; simp only [aw1, aw2, aw3, aw4, aw5] at h9_; exact h9_
  have hb19 := hb15
  simp only [aw1, aw2, aw3, aw4, aw5] at hb19
  have hd20 := hd17
  simp only [aw1, aw2, aw3, aw4, aw5] at hd20
  have hs21 := hs16
  simp only [aw1, aw2, aw3, aw4, aw5] at hs21
  refine s_op (o_assign (v := (.int .i64 ((askS (⟨[]⟩ : TabS).keys 1 [97] false).2))) rfl ?_)
  refine s_nil ?_
  refine t_norm (hK9 _ _ ?_)
  refine wp_seq_k fun K22 hK22 => ?_
  refine c_region ?_
  refine s_op (o_move (v := (.pointer (some ⟨b3, 0, none⟩))) rfl ?_)
  refine s_op (o_sight (v := (.agg #[(S [97]), (.bool true)])) (fun _ => by kernel_rfl) ?_)
  refine s_op (o_callf (vs := #[(.pointer (some ⟨b3, 0, none⟩)), (.int .i64 2), (.agg #[(S [97]), (.bool true)])]) ca39 rfl (args3 rfl rfl rfl) (ask_c (v := (⟨awT1⟩ : TabS)) (o := 2) (k := [97]) (wr := true) hH13.all1 hd18 (hb19.hkl) (hb19.hkn (by omega)) (hb19.sz (by omega))) ?_)
  rintro _ w27 ⟨sg23, rfl, hd24, hX25⟩
  refine ⟨_, rfl, ?_⟩
  have hH26 : Has E w27 [sg23, R] := hX25.of_all1
  have hb28 := hb19.ask (o := 2) (k := [97]) (wr := true) (by decide)
  have hs29 := hs21.ask (o := 2) (k := [97]) (wr := true)
  have hd30 := ask_nodup (o := 2) (k := [97]) (wr := true) hd20
  have hd31 : TbAt b3 sg23 (⟨awT2⟩ : TabS) := by have h9_ := hd24; simp only [aw1, aw2, aw3, aw4, aw5] at h9_; exact h9_
  have hb32 := hb28
  simp only [aw1, aw2, aw3, aw4, aw5] at hb32
  have hd33 := hd30
  simp only [aw1, aw2, aw3, aw4, aw5] at hd33
  have hs34 := hs29
  simp only [aw1, aw2, aw3, aw4, aw5] at hs34
  refine s_op (o_assign (v := (.int .i64 ((askS (⟨awT1⟩ : TabS).keys 2 [97] true).2))) rfl ?_)
  refine s_nil ?_
  refine t_norm (hK22 _ _ ?_)
  refine wp_seq_k fun K35 hK35 => ?_
  refine c_region ?_
  refine s_op (o_move (v := (.pointer (some ⟨b3, 0, none⟩))) rfl ?_)
  refine s_op (o_sight (v := (.agg #[(S [97]), (.bool false)])) (fun _ => by kernel_rfl) ?_)
  refine s_op (o_callf (vs := #[(.pointer (some ⟨b3, 0, none⟩)), (.int .i64 3), (.agg #[(S [97]), (.bool false)])]) ca39 rfl (args3 rfl rfl rfl) (ask_c (v := (⟨awT2⟩ : TabS)) (o := 3) (k := [97]) (wr := false) hH26.all1 hd31 (hb32.hkl) (hb32.hkn (by omega)) (hb32.sz (by omega))) ?_)
  rintro _ w40 ⟨sg36, rfl, hd37, hX38⟩
  refine ⟨_, rfl, ?_⟩
  have hH39 : Has E w40 [sg36, R] := hX38.of_all1
  have hb41 := hb32.ask (o := 3) (k := [97]) (wr := false) (by decide)
  have hs42 := hs34.ask (o := 3) (k := [97]) (wr := false)
  have hd43 := ask_nodup (o := 3) (k := [97]) (wr := false) hd33
  have hd44 : TbAt b3 sg36 (⟨awT3⟩ : TabS) := by have h9_ := hd37; simp only [aw1, aw2, aw3, aw4, aw5] at h9_; exact h9_
  have hb45 := hb41
  simp only [aw1, aw2, aw3, aw4, aw5] at hb45
  have hd46 := hd43
  simp only [aw1, aw2, aw3, aw4, aw5] at hd46
  have hs47 := hs42
  simp only [aw1, aw2, aw3, aw4, aw5] at hs47
  refine s_op (o_assign (v := (.int .i64 ((askS (⟨awT2⟩ : TabS).keys 3 [97] false).2))) rfl ?_)
  refine s_nil ?_
  refine t_norm (hK35 _ _ ?_)
  refine wp_seq_k fun K48 hK48 => ?_
  refine c_region ?_
  refine s_op (o_move (v := (.int .i64 ((askS (⟨[]⟩ : TabS).keys 1 [97] false).2))) rfl ?_)
  refine s_op (o_eql (a := (askS (⟨[]⟩ : TabS).keys 1 [97] false).2) (b := 0) rfl rfl ?_)
  refine s_op (o_move (v := (.bool (decide ((askS (⟨[]⟩ : TabS).keys 1 [97] false).2 = 0)))) rfl ?_)
  by_cases h49 : (askS (⟨[]⟩ : TabS).keys 1 [97] false).2 = 0
  · -- (askS (⟨[]⟩ : TabS).keys 1 [97] false).2 = 0
    refine s_on 17 rfl (congrArg Value.bool (decide_eq_true h49)) (o_move (v := (.int .i64 ((askS (⟨awT1⟩ : TabS).keys 2 [97] true).2))) rfl ?_)
    refine s_on 17 rfl (congrArg Value.bool (decide_eq_true h49)) (o_eql (a := (askS (⟨awT1⟩ : TabS).keys 2 [97] true).2) (b := 10) rfl rfl ?_)
    refine s_op (o_pick_t (u := (.bool (decide ((askS (⟨awT1⟩ : TabS).keys 2 [97] true).2 = 10)))) ((rfl : _ = _).trans (congrArg Value.bool (decide_eq_true h49))) rfl ?_)
    refine s_op (o_move (v := (.bool (decide ((askS (⟨awT1⟩ : TabS).keys 2 [97] true).2 = 10)))) rfl ?_)
    by_cases h50 : (askS (⟨awT1⟩ : TabS).keys 2 [97] true).2 = 10
    · -- (askS (⟨awT1⟩ : TabS).keys 2 [97] true).2 = 10
      refine s_on 21 rfl (congrArg Value.bool (decide_eq_true h50)) (o_move (v := (.int .i64 ((askS (⟨awT2⟩ : TabS).keys 3 [97] false).2))) rfl ?_)
      refine s_on 21 rfl (congrArg Value.bool (decide_eq_true h50)) (o_eql (a := (askS (⟨awT2⟩ : TabS).keys 3 [97] false).2) (b := 10) rfl rfl ?_)
      refine s_op (o_pick_t (u := (.bool (decide ((askS (⟨awT2⟩ : TabS).keys 3 [97] false).2 = 10)))) ((rfl : _ = _).trans (congrArg Value.bool (decide_eq_true h50))) rfl ?_)
      refine s_op (o_move (v := (.bool (decide ((askS (⟨awT2⟩ : TabS).keys 3 [97] false).2 = 10)))) rfl ?_)
      by_cases h51 : (askS (⟨awT2⟩ : TabS).keys 3 [97] false).2 = 10
      · -- (askS (⟨awT2⟩ : TabS).keys 3 [97] false).2 = 10
        refine s_on 25 rfl (congrArg Value.bool (decide_eq_true h51)) (o_move (v := (.pointer (some ⟨b3, 0, none⟩))) rfl ?_)
        refine s_on 25 rfl (congrArg Value.bool (decide_eq_true h51)) (o_buildSlice (ps := #[(0, (.int .i64 1))]) (cells := #[(.int .i64 1)]) Try.underlying54 ti3 (by decide) (parts1 rfl) (by kernel_rfl) hH39 fun b52 w53 hH54 => ?_)
        refine s_on 25 rfl (congrArg Value.bool (decide_eq_true h51)) (o_callf (vs := #[(.pointer (some ⟨b3, 0, none⟩)), (.slice (some ⟨b52, 0, none⟩) 1 1)]) ca41 rfl (args2 rfl rfl) (free_t (v := (⟨awT3⟩ : TabS)) (ow := [1]) (hH54.front 1 rfl).all1 hd44 ((sl_lit (f := iV) (l := [1]) rfl rfl (by simp)).mono (seg_sub 0 rfl)) (hb45.hkl) (hb45.hkn (by omega)) (hb45.sz (by omega))) ?_)
        rintro _ w62 ⟨v55, s56, sg58, rfl, ho57, hd59, hX60⟩
        refine ⟨_, rfl, ?_⟩
        have hH61 : Has E w62 [s56, sg58, [Hp.one b52 (.cells #[(.int .i64 1)] 3 (0, 0))], R] := hX60.of_all2
        have hb63 := hb45.leave hd46 (all := true) (ow := [1])
        have hs64 := hs47.leave hd46 (all := true) (ow := [1])
        have hd65 := leave_nodup hd46 (all := true) (ow := [1])
        have hd66 : TbAt b3 sg58 (⟨awT4⟩ : TabS) := by have h9_ := hd59; simp only [aw1, aw2, aw3, aw4, aw5] at h9_; exact h9_
        have hb67 := hb63
        simp only [aw1, aw2, aw3, aw4, aw5] at hb67
        have hd68 := hd65
        simp only [aw1, aw2, aw3, aw4, aw5] at hd68
        have hs69 := hs64
        simp only [aw1, aw2, aw3, aw4, aw5] at hs69
        refine s_on 25 rfl (congrArg Value.bool (decide_eq_true h51)) (o_buildSlice (ps := #[(0, (.int .i64 2))]) (cells := #[(.int .i64 2)]) Try.underlying54 ti3 (by decide) (parts1 rfl) (by kernel_rfl) hH61 fun b70 w71 hH72 => ?_)
        refine s_on 25 rfl (congrArg Value.bool (decide_eq_true h51)) (o_callf (vs := #[v55, (.slice (some ⟨b70, 0, none⟩) 1 1)]) ca49 rfl (args2 rfl rfl) (same_c hH72.all (a := ((leaveS true [1] (⟨awT3⟩ : TabS).keys).2)) (b := [2]) (ho57.sl.mono (seg_sub 1 rfl)) ((sl_lit (f := iV) (l := [2]) rfl rfl (by simp)).mono (seg_sub 0 rfl))) ?_)
        rintro _ w75 ⟨rfl, hX73⟩
        refine ⟨_, rfl, ?_⟩
        have hH74 := hX73.of_all
        refine s_op (o_pick_t (u := (.bool (decide (((leaveS true [1] (⟨awT3⟩ : TabS).keys).2) = [2])))) ((rfl : _ = _).trans (congrArg Value.bool (decide_eq_true h51))) rfl ?_)
        refine s_op (o_move (v := (.bool (decide (((leaveS true [1] (⟨awT3⟩ : TabS).keys).2) = [2])))) rfl ?_)
        by_cases h76 : ((leaveS true [1] (⟨awT3⟩ : TabS).keys).2) = [2]
        · -- ((leaveS true [1] (⟨awT3⟩ : TabS).keys).2) = [2]
          refine s_on 32 rfl (congrArg Value.bool (decide_eq_true h76)) (o_move (v := (.pointer (some ⟨b3, 0, none⟩))) rfl ?_)
          refine s_on 32 rfl (congrArg Value.bool (decide_eq_true h76)) (o_buildSlice (ps := #[(0, (.int .i64 2))]) (cells := #[(.int .i64 2)]) Try.underlying54 ti3 (by decide) (parts1 rfl) (by kernel_rfl) hH74 fun b77 w78 hH79 => ?_)
          refine s_on 32 rfl (congrArg Value.bool (decide_eq_true h76)) (o_callf (vs := #[(.pointer (some ⟨b3, 0, none⟩)), (.slice (some ⟨b77, 0, none⟩) 1 1)]) ca41 rfl (args2 rfl rfl) (free_t (v := (⟨awT4⟩ : TabS)) (ow := [2]) (hH79.front 3 rfl).all1 hd66 ((sl_lit (f := iV) (l := [2]) rfl rfl (by simp)).mono (seg_sub 0 rfl)) (hb67.hkl) (hb67.hkn (by omega)) (hb67.sz (by omega))) ?_)
          rintro _ w87 ⟨v80, s81, sg83, rfl, ho82, hd84, hX85⟩
          refine ⟨_, rfl, ?_⟩
          have hH86 : Has E w87 [s81, sg83, [Hp.one b77 (.cells #[(.int .i64 2)] 3 (0, 0))], [Hp.one b70 (.cells #[(.int .i64 2)] 3 (0, 0))], s56, [Hp.one b52 (.cells #[(.int .i64 1)] 3 (0, 0))], R] := hX85.of_all2
          have hb88 := hb67.leave hd68 (all := true) (ow := [2])
          have hs89 := hs69.leave hd68 (all := true) (ow := [2])
          have hd90 := leave_nodup hd68 (all := true) (ow := [2])
          have hd91 : TbAt b3 sg83 (⟨awT5⟩ : TabS) := by have h9_ := hd84; simp only [aw1, aw2, aw3, aw4, aw5] at h9_; exact h9_
          have hb92 := hb88
          simp only [aw1, aw2, aw3, aw4, aw5] at hb92
          have hd93 := hd90
          simp only [aw1, aw2, aw3, aw4, aw5] at hd93
          have hs94 := hs89
          simp only [aw1, aw2, aw3, aw4, aw5] at hs94
          refine s_on 32 rfl (congrArg Value.bool (decide_eq_true h76)) (o_buildSlice (ps := #[(0, (.int .i64 3))]) (cells := #[(.int .i64 3)]) Try.underlying54 ti3 (by decide) (parts1 rfl) (by kernel_rfl) hH86 fun b95 w96 hH97 => ?_)
          refine s_on 32 rfl (congrArg Value.bool (decide_eq_true h76)) (o_callf (vs := #[v80, (.slice (some ⟨b95, 0, none⟩) 1 1)]) ca49 rfl (args2 rfl rfl) (same_c hH97.all (a := ((leaveS true [2] (⟨awT4⟩ : TabS).keys).2)) (b := [3]) (ho82.sl.mono (seg_sub 1 rfl)) ((sl_lit (f := iV) (l := [3]) rfl rfl (by simp)).mono (seg_sub 0 rfl))) ?_)
          rintro _ w100 ⟨rfl, hX98⟩
          refine ⟨_, rfl, ?_⟩
          have hH99 := hX98.of_all
          refine s_op (o_pick_t (u := (.bool (decide (((leaveS true [2] (⟨awT4⟩ : TabS).keys).2) = [3])))) ((rfl : _ = _).trans (congrArg Value.bool (decide_eq_true h76))) rfl ?_)
          refine s_op (o_move (v := (.bool (decide (((leaveS true [2] (⟨awT4⟩ : TabS).keys).2) = [3])))) rfl ?_)
          by_cases h101 : ((leaveS true [2] (⟨awT4⟩ : TabS).keys).2) = [3]
          · -- ((leaveS true [2] (⟨awT4⟩ : TabS).keys).2) = [3]
            refine s_on 39 rfl (congrArg Value.bool (decide_eq_true h101)) (o_move (v := (.pointer (some ⟨b3, 0, none⟩))) rfl ?_)
            refine s_on 39 rfl (congrArg Value.bool (decide_eq_true h101)) (o_callf (vs := #[(.pointer (some ⟨b3, 0, none⟩)), (.int .i64 3)]) ca43 rfl (args2 rfl rfl) (holds_c (v := (⟨awT5⟩ : TabS)) (o := 3) hH99.all (hd91.rd.mono (seg_sub 2 rfl)) (hb92.hkl) (hb92.hkn (by omega))) ?_)
            rintro _ w107 ⟨v102, s103, rfl, ho104, hX105⟩
            refine ⟨_, rfl, ?_⟩
            have hH106 : Has E w107 [s103, [Hp.one b95 (.cells #[(.int .i64 3)] 3 (0, 0))], s81, sg83, [Hp.one b77 (.cells #[(.int .i64 2)] 3 (0, 0))], [Hp.one b70 (.cells #[(.int .i64 2)] 3 (0, 0))], s56, [Hp.one b52 (.cells #[(.int .i64 1)] 3 (0, 0))], R] := hX105.of_all1
            refine s_on 39 rfl (congrArg Value.bool (decide_eq_true h101)) (o_lenS Try.underlying78 rfl ho104.sl ?_)
            refine s_on 39 rfl (congrArg Value.bool (decide_eq_true h101)) (o_eql (a := (((holdsC (⟨awT5⟩ : TabS).keys 3).length : Nat) : Int)) (b := 1) rfl rfl ?_)
            refine s_op (o_pick_t (u := (.bool (decide ((((holdsC (⟨awT5⟩ : TabS).keys 3).length : Nat) : Int) = 1)))) ((rfl : _ = _).trans (congrArg Value.bool (decide_eq_true h101))) rfl ?_)
            refine s_op (o_assign (v := (.bool (decide ((((holdsC (⟨awT5⟩ : TabS).keys 3).length : Nat) : Int) = 1)))) rfl ?_)
            refine s_nil ?_
            refine t_norm (hK48 _ _ ?_)
            refine wp_ret ?_
            refine c_ret1 Try.results37  (v := (.bool (decide ((((holdsC (⟨awT5⟩ : TabS).keys 3).length : Nat) : Int) = 1)))) rfl ?_
            have hH108 : Has E w107 [R] := (hH106.front 8 rfl).first 1 rfl
            exact ⟨by first | rfl | (simp only [aw1, aw2, aw3, aw4, aw5, aw6]; rfl), hH108⟩
          · -- not: ((leaveS true [2] (⟨awT4⟩ : TabS).keys).2) = [3]
            exact absurd (by simp only [aw1, aw2, aw3, aw4, aw5, aw6]; try rfl) h101
        · -- not: ((leaveS true [1] (⟨awT3⟩ : TabS).keys).2) = [2]
          exact absurd (by simp only [aw1, aw2, aw3, aw4, aw5, aw6]; try rfl) h76
      · -- not: (askS (⟨awT2⟩ : TabS).keys 3 [97] false).2 = 10
        exact absurd (by simp only [aw1, aw2, aw3, aw4, aw5, aw6]; try rfl) h51
    · -- not: (askS (⟨awT1⟩ : TabS).keys 2 [97] true).2 = 10
      exact absurd (by simp only [aw1, aw2, aw3, aw4, aw5, aw6]; try rfl) h50
  · -- not: (askS (⟨[]⟩ : TabS).keys 1 [97] false).2 = 0
    exact absurd (by simp only [aw1, aw2, aw3, aw4, aw5, aw6]; try rfl) h49
end Go.Q
namespace Go.Q
structure EntI (k : Bs) (e : Ent) (ow : List Int) : Prop where
  key : ∀ q ∈ e.hold ++ e.line, q.key = k
  own : ∀ q ∈ e.hold ++ e.line, q.own ∈ ow
  safe : ∀ a ∈ e.hold, ∀ b ∈ e.hold, clashS a b = false
def LkI (t : Tab) (ow : List Int) : Prop := ∀ p ∈ t, EntI p.1 p.2 ow
theorem EntI.empty (k : Bs) (ow : List Int) : EntI k ⟨[], []⟩ ow := ⟨by simp, by simp, by simp⟩
theorem EntI.mono {k : Bs} {e : Ent} {ow ow' : List Int} (h : EntI k e ow) (hs : ∀ x ∈ ow, x ∈ ow') : EntI k e ow' := ⟨h.key, fun q hq => hs _ (h.own q hq), h.safe⟩
theorem LkI.mono {t : Tab} {ow ow' : List Int} (h : LkI t ow) (hs : ∀ x ∈ ow, x ∈ ow') : LkI t ow' := fun p hp => (h p hp).mono hs
theorem LkI.get {t : Tab} {ow : List Int} (h : LkI t ow) (k : Bs) : EntI k (entOf t k) ow := by
  cases hg : getB t k with
  | none => rw [ent_none hg]; exact EntI.empty k ow
  | some e => rw [ent_some hg]; exact h _ (getB_memp hg)
theorem clash_self (p : Plc) : clashS p p = false := by simp [clashS]
theorem mem_holdS {h : List Plc} {p q : Plc} (hq : q ∈ holdS h p) : q ∈ h ∨ q = p := by
  unfold holdS at hq; split at hq
  · exact List.mem_or_eq_of_mem_set hq
  · simpa using hq
theorem mem_waitS {h l : List Plc} {p q : Plc} (hq : q ∈ waitS h l p) : q ∈ l ∨ q = p := by
  unfold waitS insAt at hq
  split at hq
  · simpa using hq
  · split at hq
    · simpa using hq
    · rcases List.mem_append.1 hq with g | g
      · rcases List.mem_append.1 g with g | g
        · exact .inl (List.mem_of_mem_take g)
        · exact .inr (List.mem_singleton.1 g)
      · exact .inl (List.mem_of_mem_drop g)
theorem free_all {h : List Plc} {p : Plc} (hf : freeS h p = true) {q : Plc} (hq : q ∈ h) : clashS p q = false := by
  unfold freeS at hf
  simp only [Bool.not_eq_true', List.any_eq_false] at hf
  simpa using hf q hq
theorem EntI.hold {k : Bs} {e : Ent} {ow : List Int} (h : EntI k e ow) {p : Plc} (hk : p.key = k) (ho : p.own ∈ ow) (hf : freeS e.hold p = true) {l : List Plc} (hl : ∀ q ∈ l, q ∈ e.line) : EntI k ⟨holdS e.hold p, l⟩ ow := by
  refine ⟨fun q hq => ?_, fun q hq => ?_, fun a ha b hb => ?_⟩
  · rcases List.mem_append.1 hq with g | g
    · rcases mem_holdS g with g | g
      · exact h.key q (List.mem_append_left _ g)
      · rw [g]; exact hk
    · exact h.key q (List.mem_append_right _ (hl q g))
  · rcases List.mem_append.1 hq with g | g
    · rcases mem_holdS g with g | g
      · exact h.own q (List.mem_append_left _ g)
      · rw [g]; exact ho
    · exact h.own q (List.mem_append_right _ (hl q g))
  · rcases mem_holdS ha with g | g <;> rcases mem_holdS hb with g' | g'
    · exact h.safe a g b g'
    · rw [g', clash_comm]; exact free_all hf g
    · rw [g]; exact free_all hf g'
    · rw [g, g']; exact clash_self p
theorem EntI.ask {k : Bs} {e : Ent} {ow : List Int} (h : EntI k e ow) {p : Plc} (hk : p.key = k) (ho : p.own ∈ ow) : EntI k (askE e p).1 ow := by
  unfold askE
  split
  · exact h
  · split
    · rename_i g; exact h.hold hk ho g.1 fun q hq => hq
    · refine ⟨fun q hq => ?_, fun q hq => ?_, h.safe⟩
      · rcases List.mem_append.1 hq with g | g
        · exact h.key q (List.mem_append_left _ g)
        · rcases mem_waitS g with g | g
          · exact h.key q (List.mem_append_right _ g)
          · rw [g]; exact hk
      · rcases List.mem_append.1 hq with g | g
        · exact h.own q (List.mem_append_left _ g)
        · rcases mem_waitS g with g | g
          · exact h.own q (List.mem_append_right _ g)
          · rw [g]; exact ho
theorem EntI.grant {k : Bs} {ow : List Int} : ∀ (l h : List Plc), EntI k ⟨h, l⟩ ow → EntI k ⟨(grantS h l).2.1, (grantS h l).2.2⟩ ow
  | [], h, he => he
  | p :: t, h, he => by
    rw [grantS]
    split
    · rename_i g
      exact EntI.grant t (holdS h p) (he.hold (e := ⟨h, p :: t⟩) (he.key p (by simp)) (he.own p (by simp)) g fun q hq => List.mem_cons_of_mem _ hq)
    · exact he
theorem EntI.left {k : Bs} {e : Ent} {ow : List Int} (h : EntI k e ow) (all : Bool) (fr : List Int) : EntI k ⟨(leftE all fr e).2.1, (leftE all fr e).2.2⟩ ow := by
  unfold leftE
  refine EntI.grant _ _ ?_
  have hs : ∀ q ∈ (if all = true then e.hold.filter (fun p => !goneS fr p) else e.hold), q ∈ e.hold := fun q hq => by
    split at hq
    · exact (List.mem_filter.1 hq).1
    · exact hq
  refine ⟨fun q hq => ?_, fun q hq => ?_, fun a ha b hb => h.safe a (hs a ha) b (hs b hb)⟩
  · rcases List.mem_append.1 hq with g | g
    · exact h.key q (List.mem_append_left _ (hs q g))
    · exact h.key q (List.mem_append_right _ (List.mem_filter.1 g).1)
  · rcases List.mem_append.1 hq with g | g
    · exact h.own q (List.mem_append_left _ (hs q g))
    · exact h.own q (List.mem_append_right _ (List.mem_filter.1 g).1)
theorem LkI.ask {t : Tab} {ow : List Int} (h : LkI t ow) {o : Int} {k : Bs} {wr : Bool} (ho : o ∈ ow) : LkI (askS t o k wr).1 ow := by
  unfold askS; split
  · exact h
  · split
    · exact h
    · intro p hp
      rcases mem_putB hp with g | g
      · exact h p g
      · rw [g]; exact (h.get k).ask rfl ho
theorem LkI.leave {t : Tab} {ow : List Int} (h : LkI t ow) (hd : (t.map (·.1)).Nodup) {all : Bool} {fr : List Int} : LkI (leaveS all fr t).1 ow := by
  refine leave_ind (fun t => LkI t ow) (fun t k e h he => ?_) h hd
  have h1 : LkI (putB t k (⟨(leftE all fr e).2.1, (leftE all fr e).2.2⟩ : Ent)) ow := fun p hp => by
    rcases mem_putB hp with g | g
    · exact h p g
    · rw [g]; exact (h _ (getB_memp he)).left all fr
  unfold setE; split
  · exact fun p hp => h1 p (mem_delB hp)
  · exact h1
theorem mem_holds {t : Tab} {o : Int} {x : Bs × Bool} (hx : x ∈ holdsC t o) : ∃ k q, q ∈ (entOf t k).hold ∧ q.own = o ∧ x = (q.key, q.wr) := by
  unfold holdsC at hx
  obtain ⟨k, _, hk⟩ := List.mem_filterMap.1 hx
  unfold holdC at hk
  obtain ⟨q, hq, e⟩ := Option.map_eq_some_iff.1 hk
  exact ⟨k, q, List.mem_of_find?_eq_some hq, by simpa [ownIs] using List.find?_some hq, e.symm⟩
theorem safe1 {t : Tab} {ow : List Int} (h : LkI t ow) {a b : Int} {x y : Bs × Bool} (hx : x ∈ holdsC t a) (hy : y ∈ holdsC t b) (hne : a ≠ b) (hk : x.1 = y.1) : x.2 = false ∧ y.2 = false := by
  obtain ⟨k, p, hp, hpo, rfl⟩ := mem_holds hx
  obtain ⟨k', q, hq, hqo, rfl⟩ := mem_holds hy
  have e1 := (h.get k).key p (List.mem_append_left _ hp)
  have e2 := (h.get k').key q (List.mem_append_left _ hq)
  have e3 : k = k' := by rw [← e1, ← e2]; exact hk
  subst e3
  have := (h.get k).safe p hp q hq
  unfold clashS at this
  rw [decide_eq_true (show p.own ≠ q.own by rw [hpo, hqo]; exact hne)] at this
  simpa using this
theorem safe2 {t : Tab} {ow : List Int} (h : LkI t ow) (hs : LkS t) {o : Int} {p : Plc} (hw : waitsS t o = some p) : ∃ b ∈ ow, ∃ y ∈ holdsC t b, y.1 = p.key := by
  unfold waitsS at hw
  obtain ⟨k, hk, hf⟩ := List.exists_of_findSome?_eq_some hw
  have hp := List.mem_of_find?_eq_some hf
  obtain ⟨e, he⟩ := Option.isSome_iff_exists.1 (getB_mem.2 (names_mem.1 hk))
  have hst := (hs _ (getB_memp he)).1
  have hg := h.get k
  rw [ent_some he] at hp hg
  obtain ⟨q, hq⟩ := List.exists_mem_of_ne_nil _ hst
  have hqo := hg.own q (List.mem_append_left _ hq)
  refine ⟨q.own, hqo, ?_⟩
  have hfi : ∃ z, e.hold.find? (ownIs q.own) = some z := by
    cases hz : e.hold.find? (ownIs q.own) with
    | some z => exact ⟨z, rfl⟩
    | none => rw [List.find?_eq_none] at hz; exact absurd (hz q hq) (by simp [ownIs])
  obtain ⟨z, hz⟩ := hfi
  refine ⟨(z.key, z.wr), ?_, ?_⟩
  · unfold holdsC
    exact List.mem_filterMap.2 ⟨k, hk, by unfold holdC; rw [ent_some he, hz]; rfl⟩
  · show z.key = p.key
    rw [hg.key z (List.mem_append_left _ (List.mem_of_find?_eq_some hz)), hg.key p (List.mem_append_right _ hp)]
/-- None of these is in any entry. -/
def Freed (t : Tab) (fr : List Int) : Prop := ∀ p ∈ t, ∀ q ∈ p.2.hold ++ p.2.line, q.own ∉ fr
theorem mem_grant : ∀ (l h : List Plc) (q : Plc), q ∈ (grantS h l).2.1 ++ (grantS h l).2.2 → q ∈ h ++ l
  | [], h, q, hq => hq
  | p :: t, h, q, hq => by
    rw [grantS] at hq
    split at hq
    · have := mem_grant t (holdS h p) q hq
      rcases List.mem_append.1 this with g | g
      · rcases mem_holdS g with g | g
        · exact List.mem_append_left _ g
        · rw [g]; simp
      · exact List.mem_append_right _ (List.mem_cons_of_mem _ g)
    · exact hq
theorem mem_left {all : Bool} {fr : List Int} {e : Ent} {q : Plc} (hq : q ∈ (leftE all fr e).2.1 ++ (leftE all fr e).2.2) : q ∈ e.hold ++ e.line ∧ (all = true → q.own ∉ fr) := by
  unfold leftE at hq
  have := mem_grant _ _ _ hq
  rcases List.mem_append.1 this with g | g
  · split at g
    · have := List.mem_filter.1 g
      exact ⟨List.mem_append_left _ this.1, fun _ => by simpa [goneS] using this.2⟩
    · rename_i ha; exact ⟨List.mem_append_left _ g, fun h => absurd h ha⟩
  · have := List.mem_filter.1 g
    exact ⟨List.mem_append_right _ this.1, fun _ => by simpa [goneS] using this.2⟩
theorem nodup_get {κ β : Type} [DecidableEq κ] {k : κ} {v : β} : ∀ {l : List (κ × β)}, (l.map (·.1)).Nodup → (k, v) ∈ l → getB l k = some v
  | [], _, h => by cases h
  | (a, x) :: t, hn, h => by
    have hn' := List.nodup_cons.1 hn
    rw [getB]
    rcases List.mem_cons.1 h with e | e
    · cases e; rw [if_pos rfl]
    · rw [if_neg (fun g => hn'.1 (List.mem_map.2 ⟨(k, v), e, g⟩))]; exact nodup_get hn'.2 e
/-- What is in the entries of a table that is left. -/
theorem leaveF_mem {all : Bool} {fr : List Int} : ∀ (ks : List Bs) (t : Tab), ks.Nodup → (t.map (·.1)).Nodup → (∀ y ∈ ks, (getB t y).isSome = true) → ∀ p ∈ (leaveF all fr t ks).1, ∃ e, (p.1, e) ∈ t ∧ (p.1 ∉ ks → p.2 = e) ∧ (p.1 ∈ ks → ∀ q ∈ p.2.hold ++ p.2.line, q ∈ e.hold ++ e.line ∧ (all = true → q.own ∉ fr))
  | [], t, _, _, _, p, hp => ⟨p.2, hp, fun _ => rfl, fun h => by cases h⟩
  | k :: ks, t, hn, hd, hi, p, hp => by
    obtain ⟨e0, he0⟩ := Option.isSome_iff_exists.1 (hi k (List.mem_cons_self ..))
    have hn' := List.nodup_cons.1 hn
    rw [leaveF, ent_some he0] at hp
    have hks : ∀ y ∈ ks, (getB (setE t k ⟨(leftE all fr e0).2.1, (leftE all fr e0).2.2⟩) y).isSome = true := fun y hy =>
      leave_keep (y := y) (x := k) (b := (leftE all fr e0).2.1 = []) (fun g => hn'.1 (by rw [← g]; exact hy)) (hi y (List.mem_cons_of_mem _ hy)) hd (by unfold setE; rfl)
    obtain ⟨e, h1, h2, h3⟩ := leaveF_mem ks _ hn'.2 (set_nodup hd he0) hks p hp
    have hmem : (p.1, e) ∈ putB t k (⟨(leftE all fr e0).2.1, (leftE all fr e0).2.2⟩ : Ent) := by
      unfold setE at h1; split at h1
      · exact mem_delB h1
      · exact h1
    by_cases hk : p.1 = k
    · have hpk : p.1 ∉ ks := by rw [hk]; exact hn'.1
      have hp2 := h2 hpk
      rcases mem_putB hmem with g | g
      · -- the old entry: another one stands under k now
        have hp1 : ((putB t k (⟨(leftE all fr e0).2.1, (leftE all fr e0).2.2⟩ : Ent)).map (·.1)).Nodup := by rw [putB_keys, if_pos (getB_mem.1 (by rw [he0]; rfl))]; exact hd
        have e1 : getB (putB t k (⟨(leftE all fr e0).2.1, (leftE all fr e0).2.2⟩ : Ent)) k = some e := nodup_get hp1 (by have h9 := hmem; rw [hk] at h9; exact h9)
        rw [getB_put, if_pos rfl] at e1
        cases e1
        refine ⟨e0, by rw [hk]; exact getB_memp he0, fun g' => absurd (by rw [hk]; simp) g', fun _ q hq => ?_⟩
        rw [hp2] at hq; exact mem_left hq
      · cases g
        refine ⟨e0, by rw [hk]; exact getB_memp he0, fun g' => absurd (by rw [hk]; simp) g', fun _ q hq => ?_⟩
        rw [hp2] at hq; exact mem_left hq
    · rcases mem_putB hmem with g | g
      · exact ⟨e, g, fun g' => h2 fun g2 => g' (List.mem_cons_of_mem _ g2), fun g' => h3 ((List.mem_cons.1 g').resolve_left hk)⟩
      · cases g; exact absurd rfl hk
theorem Freed.leave {t : Tab} {fr : List Int} (h : Freed t fr) (hd : (t.map (·.1)).Nodup) {o : Int} : Freed (leaveS true [o] t).1 (fr ++ [o]) := by
  intro p hp q hq
  obtain ⟨e, h1, h2, h3⟩ := leaveF_mem (namesS t) t (names_nodup hd) hd (fun y hy => getB_mem.2 (names_mem.1 hy)) p hp
  have hm : p.1 ∈ namesS t := names_mem.2 (List.mem_map.2 ⟨_, h1, rfl⟩)
  obtain ⟨h4, h5⟩ := h3 hm q hq
  intro hf
  rcases List.mem_append.1 hf with g | g
  · exact h _ h1 q h4 g
  · exact h5 rfl g
theorem freed_nil {t : Tab} {ow : List Int} (hf : Freed t ow) (hi : LkI t ow) (hs : LkS t) : t = [] := by
  cases t with
  | nil => rfl
  | cons p t =>
    obtain ⟨q, hq⟩ := List.exists_mem_of_ne_nil _ (hs p (by simp)).1
    exact absurd ((hi p (by simp)).own q (List.mem_append_left _ hq)) (hf p (by simp) q (List.mem_append_left _ hq))
theorem edges_nil : edgesS [] = [] := by simp [edgesS, namesS]
end Go.Q
namespace Go.Q
theorem sorted_nodup {l : List Int} (h : l.Pairwise (· < ·)) : l.Nodup := h.imp fun hlt e => by omega
theorem sm_next {sm : Bool} {W : Prop} {O : List Int} {t : Tab} {b k : Nat} {z : Int} {c : Bs} (h : sm = true ∨ ((W ∧ ∀ j, j < b → ∀ z, O[j]? = some z → ∀ y ∈ holdsC t z, y.1 ≠ c) ∧ ∀ y ∈ (holdsC t z).take k, y.1 ≠ c)) (hk : k = (holdsC t z).length) (hz : O[b]? = some z) :
    sm = true ∨ (W ∧ ∀ j, j < b + 1 → ∀ z, O[j]? = some z → ∀ y ∈ holdsC t z, y.1 ≠ c) := by
  refine h.imp id fun ⟨⟨h1, h2⟩, h3⟩ => ⟨h1, fun j hj z' hz' => ?_⟩
  rcases Nat.lt_or_ge j b with g | g
  · exact h2 j g z' hz'
  · obtain rfl : j = b := by omega
    rw [hz] at hz'; cases hz'
    rw [hk, List.take_length] at h3; exact h3
theorem safe_end {sm : Bool} {O : List Int} {t : Tab} {b : Nat} {o : Int} (hi : LkI t O) (hs : LkS t) (h : sm = true ∨ ((waitsS t o).isSome = true ∧ ∀ j, j < b → ∀ z, O[j]? = some z → ∀ y ∈ holdsC t z, y.1 ≠ (((waitsS t o).map (·.key)).getD []))) (hb : b = O.length) : (!sm) = false := by
  rcases h with h | ⟨h1, h2⟩
  · rw [h]; rfl
  · obtain ⟨p, hp⟩ := Option.isSome_iff_exists.1 h1
    obtain ⟨z, hz, y, hy, hk⟩ := safe2 hi hs hp
    obtain ⟨j, hj⟩ := List.getElem?_of_mem hz
    have hlt := (List.getElem?_eq_some_iff.1 hj).1
    exact absurd (by rw [hp]; exact hk) (h2 j (by omega) z hj y hy)
end Go.Q
namespace Go.Q
open Go.Proofs
set_option linter.unusedVariables false
set_option maxRecDepth 100000
attribute [local irreducible] wpList OK Code.wp
set_option maxHeartbeats 4000000 in
theorem with_c {E w : World} {R : List Hp} (hH : Has E w [R]) {v : Value} {l : List Int} (hv : Ints R v l) (hl : l.length ≤ 400000) (n : Int) (inn : Bool) :
    Calls Try.prog 42 #[v, (.int .i64 n), (.bool inn)] w fun e w' => ∃ v' hs', e = .returned v' ∧ Own 3 1 v' (withS n (!inn) l).length ((withS n (!inn) l).map iV) hs' ∧ Has E w' [hs', R] := by
  have hn_ := hv.le
  refine c_enter (args := [v, (.int .i64 n), (.bool inn)]) Try.func42 rfl Try.ntmps42 (by simp) ?_
  refine wp_seq_k fun K1 hK1 => ?_
  refine c_region ?_
  refine s_op (o_assign (v := (.slice none 0 0)) rfl ?_)
  refine s_nil ?_
  refine t_norm (hK1 _ _ ?_)
  refine wp_seq_k fun K2 hK2 => ?_
  refine c_region ?_
  refine s_op (o_assign (v := (.slice none 0 0)) rfl ?_)
  refine s_nil ?_
  refine t_norm (hK2 _ _ ?_)
  refine wp_seq_k fun K3 hK3 => ?_
  refine c_region ?_
  refine s_op (o_move (v := (.bool inn)) rfl ?_)
  refine s_op (o_not rfl ?_)
  refine s_op (o_assign (v := (.bool (!inn))) rfl ?_)
  refine s_nil ?_
  refine t_norm (hK3 _ _ ?_)
  refine wp_seq_k fun K4 hK4 => ?_
  refine wp_seq_k fun K5 hK5 => ?_
  refine c_region ?_
  refine s_op (o_assign (v := (.int .i64 0)) rfl ?_)
  refine s_nil ?_
  refine t_norm (hK5 _ _ ?_)
  refine wp_block ?_
  let I7 : Nat → (Nat → Value) → World → Prop := fun n__ r__ w__ => ∃ (k : Nat) (d : Bool) (va : Value) (ha : List Hp) (acc : List Int), n__ = l.length - k ∧ Has E w__ [ha, R] ∧ (k ≤ l.length) ∧ (Own 3 1 va acc.length (acc.map iV) ha) ∧ (acc.length ≤ 2 * k) ∧ (withS n (!inn) l = acc ++ withS n d (l.drop k)) ∧ r__ 0 = v ∧ r__ 1 = (.int .i64 n) ∧ r__ 2 = (.bool inn) ∧ r__ 6 = (.slice none 0 0) ∧ r__ 7 = va ∧ r__ 8 = (.bool d) ∧ r__ 9 = (.int .i64 (k : Int))
  have hH8 : Has E w [[], R] := (Has.nil hH).first 2 rfl
  refine c_loop I7 _ ⟨0, (!inn), (.slice none 0 0), [], [], rfl, hH8, Nat.zero_le _, Own.nil 3 1, (by simp), (by simp), rfl, rfl, rfl, rfl, rfl, rfl, rfl⟩ ?_
  rintro n_ r11 w9 ⟨k, d, va, ha, acc, rfl, hH10, hk, hoa, hc, hw, e6_0, e6_1, e6_2, e6_6, e6_7, e6_8, e6_9⟩
  refine wp_seq_k fun K12 hK12 => ?_
  refine wp_seq_k fun K13 hK13 => ?_
  refine c_region ?_
  refine s_op (o_move (v := (.int .i64 (k : Int))) e6_9 ?_)
  refine s_op (o_move (v := v) e6_0 ?_)
  refine s_op (o_lenS Try.underlying54 rfl hv ?_)
  refine s_op (o_lss (a := (k : Int)) (b := ((l.length : Nat) : Int)) rfl rfl ?_)
  refine s_nil ?_
  refine t_norm (hK13 _ _ ?_)
  refine c_cond rfl (fun h14 => ?_) (fun h14 => ?_)
  · -- (k : Int) < ((l.length : Nat) : Int)
    obtain ⟨xx, hxx⟩ : ∃ x_, l[((k : Int)).toNat]? = some x_ := get_some (by omega)
    refine wp_skip ?_
    refine t_norm (hK12 _ _ ?_)
    refine wp_seq_k fun K15 hK15 => ?_
    refine wp_block ?_
    refine wp_seq_k fun K16 hK16 => ?_
    let J18 : (Nat → Value) → World → Prop := fun r__ w__ => ∃ (d2 : Bool) (vb : Value) (hb : List Hp) (ac2 : List Int), Has E w__ [hb, R] ∧ (Own 3 1 vb ac2.length (ac2.map iV) hb) ∧ (ac2.length ≤ 2 * k + 1) ∧ (d2 = (d || decide (n ≤ xx))) ∧ (ac2 = acc ++ (if d = false ∧ n ≤ xx then [n] else [])) ∧ r__ 0 = v ∧ r__ 1 = (.int .i64 n) ∧ r__ 2 = (.bool inn) ∧ r__ 6 = (.slice none 0 0) ∧ r__ 7 = vb ∧ r__ 8 = (.bool d2) ∧ r__ 9 = (.int .i64 (k : Int)) ∧ r__ 15 = (.bool (decide ((k : Int) < ((l.length : Nat) : Int))))
    have hJ19 : ∀ r w, J18 r w → K16 (Go.Q.fr 52 r) w := by
      rintro r22 w20 ⟨d2, vb, hb, ac2, hH21, hob, hc2, hd2, hac2, e17_0, e17_1, e17_2, e17_6, e17_7, e17_8, e17_9, e17_15⟩
      refine hK16 _ _ ?_
      refine wp_seq_k fun K23 hK23 => ?_
      refine c_region ?_
      refine s_op (o_move (v := v) e17_0 ?_)
      refine s_op (o_move (v := (.int .i64 (k : Int))) e17_9 ?_)
      refine s_op (o_index1 Try.underlying54 ti3 rfl hv rfl (by omega) hxx fun b24 o25 hc26 => ?_)
      refine s_op (o_load1 (v := (.int .i64 xx)) Try.underlying3 rfl rfl hH21 (seg_sub 1 rfl) hc26 ?_)
      refine s_op (o_move (v := (.int .i64 n)) e17_1 ?_)
      refine s_op (o_neq (a := xx) (b := n) rfl rfl ?_)
      refine s_nil ?_
      refine t_norm (hK23 _ _ ?_)
      refine c_cond rfl (fun h27 => ?_) (fun h27 => ?_)
      · -- xx ≠ n
        refine c_region ?_
        refine s_op (o_move (v := vb) e17_7 ?_)
        refine s_op (o_move (v := v) e17_0 ?_)
        refine s_op (o_move (v := (.int .i64 (k : Int))) e17_9 ?_)
        refine s_op (o_index1 Try.underlying54 ti3 rfl hv rfl (by omega) hxx fun b28 o29 hc30 => ?_)
        refine s_op (o_load1 (v := (.int .i64 xx)) Try.underlying3 rfl rfl hH21 (seg_sub 1 rfl) hc30 ?_)
        refine s_op (o_buildSlice (ps := #[(0, (.int .i64 xx))]) (cells := #[(.int .i64 xx)]) Try.underlying54 ti3 (by decide) (parts1 rfl) (by kernel_rfl) hH21 fun b31 w32 hH33 => ?_)
        refine s_op (o_append Try.underlying54 ti3 rfl (by decide) rfl hob rfl (sl_lit (f := iV) (l := [xx]) rfl rfl (by simp)) (hH33.front 1 rfl) (seg_sub 0 rfl) (one_iV _) (by simp; omega) (by simp; omega) fun v34 s35 w37 ho36 hH38 => ?_)
        have ho36 : Own 3 1 v34 (ac2 ++ [xx]).length ((ac2 ++ [xx]).map iV) s35 := ho36.app
        refine s_op (o_assign (v := v34) rfl ?_)
        refine s_nil ?_
        refine b_norm ?_
        refine t_norm (hK15 _ _ ?_)
        refine c_region ?_
        refine s_op (o_move (v := (.int .i64 (k : Int))) e17_9 ?_)
        refine s_op (o_add (a := (k : Int)) (b := 1) rfl rfl (w64 (by omega) (by omega)) ?_)
        refine s_op (o_assign (v := (.int .i64 ((k : Int) + 1))) rfl ?_)
        refine s_nil ?_
        have hH39 : Has E w37 [s35, R] := ((hH38.front 2 rfl).front 1 rfl).first 2 rfl
        refine t_norm ⟨l.length - (k + 1), _, rfl, ?_, ?_⟩
        · omega
        · exact ⟨(k + 1), d2, v34, s35, (ac2 ++ [xx]), rfl, hH39, (by omega), (ho36), (by first | omega | (simp only [List.length_append, List.length_cons, List.length_nil]; omega)), (by have g_ := with_step hw (show l[k]? = some xx from hxx); rw [hd2, hac2]; rw [if_pos h27] at g_; simpa [List.append_assoc] using g_), e17_0, e17_1, e17_2, e17_6, rfl, e17_8, rfl⟩
      · -- not: xx ≠ n
        refine wp_skip ?_
        refine b_norm ?_
        refine t_norm (hK15 _ _ ?_)
        refine c_region ?_
        refine s_op (o_move (v := (.int .i64 (k : Int))) e17_9 ?_)
        refine s_op (o_add (a := (k : Int)) (b := 1) rfl rfl (w64 (by omega) (by omega)) ?_)
        refine s_op (o_assign (v := (.int .i64 ((k : Int) + 1))) rfl ?_)
        refine s_nil ?_
        refine t_norm ⟨l.length - (k + 1), _, rfl, ?_, ?_⟩
        · omega
        · exact ⟨(k + 1), d2, vb, hb, ac2, rfl, hH21, (by omega), (hob), (by first | omega | (simp only [List.length_append, List.length_cons, List.length_nil]; omega)), (by have g_ := with_step hw (show l[k]? = some xx from hxx); rw [hd2, hac2]; rw [if_neg h27] at g_; simpa [List.append_assoc] using g_), e17_0, e17_1, e17_2, e17_6, e17_7, e17_8, rfl⟩
    refine wp_seq_k fun K40 hK40 => ?_
    refine c_region ?_
    refine s_op (o_move (v := (.bool d)) e6_8 ?_)
    refine s_op (o_not rfl ?_)
    refine s_op (o_move (v := (.bool (!d))) rfl ?_)
    rcases Bool.eq_false_or_eq_true (!d) with h41 | h41
    · -- !d
      refine s_on 20 rfl (congrArg Value.bool h41) (o_move (v := v) e6_0 ?_)
      refine s_on 20 rfl (congrArg Value.bool h41) (o_move (v := (.int .i64 (k : Int))) e6_9 ?_)
      refine s_on 20 rfl (congrArg Value.bool h41) (o_index1 Try.underlying54 ti3 rfl hv rfl (by omega) hxx fun b42 o43 hc44 => ?_)
      refine s_on 20 rfl (congrArg Value.bool h41) (o_load1 (v := (.int .i64 xx)) Try.underlying3 rfl rfl hH10 (seg_sub 1 rfl) hc44 ?_)
      refine s_on 20 rfl (congrArg Value.bool h41) (o_move (v := (.int .i64 n)) e6_1 ?_)
      refine s_on 20 rfl (congrArg Value.bool h41) (o_geq (a := xx) (b := n) rfl rfl ?_)
      refine s_op (o_pick_t (u := (.bool (decide (n ≤ xx)))) ((rfl : _ = _).trans (congrArg Value.bool h41)) rfl ?_)
      refine s_nil ?_
      refine t_norm (hK40 _ _ ?_)
      refine c_cond rfl (fun h45 => ?_) (fun h45 => ?_)
      · -- n ≤ xx
        refine wp_seq_k fun K46 hK46 => ?_
        refine c_region ?_
        refine s_op (o_move (v := va) e6_7 ?_)
        refine s_op (o_move (v := (.int .i64 n)) e6_1 ?_)
        refine s_op (o_buildSlice (ps := #[(0, (.int .i64 n))]) (cells := #[(.int .i64 n)]) Try.underlying54 ti3 (by decide) (parts1 rfl) (by kernel_rfl) hH10 fun b47 w48 hH49 => ?_)
        refine s_op (o_append Try.underlying54 ti3 rfl (by decide) rfl hoa rfl (sl_lit (f := iV) (l := [n]) rfl rfl (by simp)) (hH49.front 1 rfl) (seg_sub 0 rfl) (one_iV _) (by simp; omega) (by simp; omega) fun v50 s51 w53 ho52 hH54 => ?_)
        have ho52 : Own 3 1 v50 (acc ++ [n]).length ((acc ++ [n]).map iV) s51 := ho52.app
        refine s_op (o_assign (v := v50) rfl ?_)
        refine s_nil ?_
        refine t_norm (hK46 _ _ ?_)
        refine c_region ?_
        refine s_op (o_assign (v := (.bool true)) rfl ?_)
        refine s_nil ?_
        have hH55 : Has E w53 [s51, R] := ((hH54.front 2 rfl).front 1 rfl).first 2 rfl
        refine t_norm (hJ19 _ _ ⟨true, v50, s51, (acc ++ [n]), hH55, (ho52), (by first | omega | (simp only [List.length_append, List.length_cons, List.length_nil]; omega)), (by simp_all), (by simp_all), e6_0, e6_1, e6_2, e6_6, rfl, rfl, e6_9, rfl⟩)
      · -- not: n ≤ xx
        refine wp_skip ?_
        refine t_norm (hJ19 _ _ ⟨d, va, ha, acc, hH10, (hoa), (by first | omega | (simp only [List.length_append, List.length_cons, List.length_nil]; omega)), (by simp_all), (by simp_all), e6_0, e6_1, e6_2, e6_6, e6_7, e6_8, e6_9, rfl⟩)
    · -- not: !d
      refine s_off (b' := false) 20 rfl (congrArg Value.bool h41) rfl ?_
      refine s_off (b' := false) 20 rfl (congrArg Value.bool h41) rfl ?_
      refine s_off (b' := false) 20 rfl (congrArg Value.bool h41) rfl ?_
      refine s_off (b' := false) 20 rfl (congrArg Value.bool h41) rfl ?_
      refine s_off (b' := false) 20 rfl (congrArg Value.bool h41) rfl ?_
      refine s_off (b' := false) 20 rfl (congrArg Value.bool h41) rfl ?_
      refine s_op (o_pick_f (u := (.bool false)) ((rfl : _ = _).trans (congrArg Value.bool h41)) rfl ?_)
      refine s_nil ?_
      refine t_norm (hK40 _ _ ?_)
      refine c_false rfl rfl ?_
      refine wp_skip ?_
      refine t_norm (hJ19 _ _ ⟨d, va, ha, acc, hH10, (hoa), (by first | omega | (simp only [List.length_append, List.length_cons, List.length_nil]; omega)), (by simp_all), (by simp_all), e6_0, e6_1, e6_2, e6_6, e6_7, e6_8, e6_9, rfl⟩)
  · -- not: (k : Int) < ((l.length : Nat) : Int)
    refine wp_exit ?_
    refine t_exit (t_exit (x_in (?_)))
    refine t_norm (hK4 _ _ ?_)
    refine wp_seq_k fun K56 hK56 => ?_
    refine wp_seq_k fun K57 hK57 => ?_
    refine c_region ?_
    refine s_op (o_move (v := (.bool d)) e6_8 ?_)
    refine s_op (o_not rfl ?_)
    refine s_nil ?_
    refine t_norm (hK57 _ _ ?_)
    refine c_condb rfl (fun h58 => ?_) (fun h58 => ?_)
    · -- !d
      have h58_n : d = false := by simpa using h58
      refine c_region ?_
      refine s_op (o_move (v := va) e6_7 ?_)
      refine s_op (o_move (v := (.int .i64 n)) e6_1 ?_)
      refine s_op (o_buildSlice (ps := #[(0, (.int .i64 n))]) (cells := #[(.int .i64 n)]) Try.underlying54 ti3 (by decide) (parts1 rfl) (by kernel_rfl) hH10 fun b59 w60 hH61 => ?_)
      refine s_op (o_append Try.underlying54 ti3 rfl (by decide) rfl hoa rfl (sl_lit (f := iV) (l := [n]) rfl rfl (by simp)) (hH61.front 1 rfl) (seg_sub 0 rfl) (one_iV _) (by simp; omega) (by simp; omega) fun v62 s63 w65 ho64 hH66 => ?_)
      have ho64 : Own 3 1 v62 (acc ++ [n]).length ((acc ++ [n]).map iV) s63 := ho64.app
      refine s_op (o_assign (v := v62) rfl ?_)
      refine s_nil ?_
      refine t_norm (hK56 _ _ ?_)
      refine wp_seq_k fun K67 hK67 => ?_
      refine c_region ?_
      refine s_op (o_move (v := v62) rfl ?_)
      refine s_op (o_assign (v := v62) rfl ?_)
      refine s_nil ?_
      refine t_norm (hK67 _ _ ?_)
      refine wp_ret ?_
      refine c_ret1 Try.results42  (v := v62) rfl ?_
      have hH68 : Has E w65 [s63, R] := ((hH66.front 2 rfl).front 1 rfl).first 2 rfl
      have e : k = l.length := by omega
      rw [e, List.drop_length] at hw
      have hw2 : withS n (!inn) l = acc ++ [n] := by rw [hw, withS]; simp_all
      exact ⟨_, _, rfl, by rw [hw2]; exact ho64, hH68⟩
    · -- not: !d
      have h58_n : d = true := by simpa using h58
      refine wp_skip ?_
      refine t_norm (hK56 _ _ ?_)
      refine wp_seq_k fun K69 hK69 => ?_
      refine c_region ?_
      refine s_op (o_move (v := va) e6_7 ?_)
      refine s_op (o_assign (v := va) rfl ?_)
      refine s_nil ?_
      refine t_norm (hK69 _ _ ?_)
      refine wp_ret ?_
      refine c_ret1 Try.results42  (v := va) rfl ?_
      have e : k = l.length := by omega
      rw [e, List.drop_length] at hw
      have hw2 : withS n (!inn) l = acc := by rw [hw, withS]; simp_all
      exact ⟨_, _, rfl, by rw [hw2]; exact hoa, hH10⟩
set_option maxHeartbeats 4000000 in
theorem LockSafe_c {E w : World} {R : List Hp} {v_l : Value} {l : List LAct}  (hH : Has E w [R]) (h_l : Sl R 5 v_l l.length (l.flatMap laC)) (hok : ∀ a ∈ l, LaOk R a) :
    Calls Try.prog 7 #[v_l] w fun e w' => e = .returned (.bool true) ∧ Has E w' [R] := by
  have hn_ := h_l.le
  have hml := fun (x : LAct) (hx : x ∈ l) => (hok x hx).le
  refine c_enter (args := [v_l]) Try.func7 rfl Try.ntmps7 (by simp) ?_
  refine wp_seq_k fun K1 hK1 => ?_
  refine c_region ?_
  refine s_op (o_assign (v := (.bool false)) rfl ?_)
  refine s_nil ?_
  refine t_norm (hK1 _ _ ?_)
  refine wp_seq_k fun K2 hK2 => ?_
  refine wp_seq_k fun K3 hK3 => ?_
  refine c_region ?_
  refine s_op (o_move (v := v_l) rfl ?_)
  refine s_op (o_callf (vs := #[v_l]) ca36 rfl (args1 rfl) (great14_c (l := l) hH.all (h_l.mono (seg_sub 0 rfl)) (fun a_ ha_ => (hok a_ ha_).mono (seg_sub 0 rfl))) ?_)
  rintro _ w8 ⟨gb_4, rfl, hg_5, hX6⟩
  refine ⟨_, rfl, ?_⟩
  have hH7 : Has E w8 [R] := hX6.of_all
  refine s_op (o_move (v := (.bool gb_4)) rfl ?_)
  rcases Bool.eq_false_or_eq_true gb_4 with h9 | h9
  · -- gb_4
    refine s_off (b' := true) 18 rfl (congrArg Value.bool h9) rfl ?_
    refine s_off (b' := true) 18 rfl (congrArg Value.bool h9) rfl ?_
    refine s_op (o_pick_t (u := (.bool true)) ((rfl : _ = _).trans (congrArg Value.bool h9)) rfl ?_)
    refine s_nil ?_
    refine t_norm (hK3 _ _ ?_)
    refine c_true rfl rfl ?_
    refine wp_seq_k fun K10 hK10 => ?_
    refine c_region ?_
    refine s_op (o_callf (vs := #[]) ca37 rfl (args0) (awake14_c hH7.all ) ?_)
    rintro _ w13 ⟨rfl, hX11⟩
    refine ⟨_, rfl, ?_⟩
    have hH12 := hX11.of_all
    refine s_op (o_assign (v := (.bool true)) rfl ?_)
    refine s_nil ?_
    refine t_norm (hK10 _ _ ?_)
    refine wp_ret ?_
    refine t_ret (c_ret1 Try.results7  (v := (.bool true)) rfl ?_)
    exact ⟨by first | rfl | simp, hH12⟩
  · -- not: gb_4
    have hfine := hg_5 h9
    have hl60 := hfine.1
    refine s_on 18 rfl (congrArg Value.bool h9) (o_callf (vs := #[]) ca37 rfl (args0) (awake14_c hH7.all ) ?_)
    rintro _ w16 ⟨rfl, hX14⟩
    refine ⟨_, rfl, ?_⟩
    have hH15 := hX14.of_all
    refine s_on 18 rfl (congrArg Value.bool h9) (o_not rfl ?_)
    refine s_op (o_pick_f (u := (.bool false)) ((rfl : _ = _).trans (congrArg Value.bool h9)) rfl ?_)
    refine s_nil ?_
    refine t_norm (hK3 _ _ ?_)
    refine c_false rfl rfl ?_
    refine wp_skip ?_
    refine t_norm (hK2 _ _ ?_)
    refine wp_seq_k fun K17 hK17 => ?_
    refine c_region ?_
    refine s_op (o_callf (vs := #[]) ca38 rfl (args0) (new_c hH15.all ) ?_)
    rintro _ w23 ⟨b18, sg19, rfl, hd20, hX21⟩
    refine ⟨_, rfl, ?_⟩
    have hH22 : Has E w23 [sg19, R] := hX21.of_all1
    refine s_op (o_assign (v := (.pointer (some ⟨b18, 0, none⟩))) rfl ?_)
    refine s_nil ?_
    refine t_norm (hK17 _ _ ?_)
    refine wp_seq_k fun K24 hK24 => ?_
    refine c_region ?_
    refine s_op (o_assign (v := (.slice none 0 0)) rfl ?_)
    refine s_nil ?_
    refine t_norm (hK24 _ _ ?_)
    refine wp_seq_k fun K25 hK25 => ?_
    refine wp_seq_k fun K26 hK26 => ?_
    refine c_region ?_
    refine s_op (o_assign (v := (.int .i64 0)) rfl ?_)
    refine s_nil ?_
    refine t_norm (hK26 _ _ ?_)
    refine wp_block ?_
    let I28 : Nat → (Nat → Value) → World → Prop := fun n__ r__ w__ => ∃ (i : Nat) (t2 : Tab) (sg2 : List Hp) (vo : Value) (so : List Hp) (ow : List Int), n__ = l.length - i ∧ Has E w__ [so, sg2, R] ∧ (i ≤ l.length) ∧ (TbAt b18 sg2 (⟨t2⟩ : TabS)) ∧ (LkB t2 i) ∧ (LkS t2) ∧ ((t2.map (·.1)).Nodup) ∧ (Own 3 1 vo ow.length (ow.map iV) so) ∧ (LkI t2 ow) ∧ (ow.Pairwise (· < ·)) ∧ (ow.length ≤ i) ∧ r__ 0 = v_l ∧ r__ 3 = (.pointer (some ⟨b18, 0, none⟩)) ∧ r__ 4 = vo ∧ r__ 5 = (.int .i64 (i : Int)) ∧ r__ 21 = (.bool false)
    have hH29 : Has E w23 [[], sg19, R] := (Has.nil ((hH22.front 1 rfl).front 1 rfl)).first 3 rfl
    refine c_loop I28 _ ⟨0, [], sg19, (.slice none 0 0), [], [], rfl, hH29, Nat.zero_le _, hd20, LkB.nil, LkS.nil, (show (([] : Tab).map (·.1)).Nodup from List.nodup_nil), Own.nil 3 1, (fun p hp => by cases hp), List.Pairwise.nil, Nat.le_refl _, rfl, rfl, rfl, rfl, rfl⟩ ?_
    rintro n_ r32 w30 ⟨i, t2, sg2, vo, so, ow, rfl, hH31, hi, ht2, hb2, hs2, hd2, hoo, hi2, hso, hwl, e27_0, e27_3, e27_4, e27_5, e27_21⟩
    refine wp_seq_k fun K33 hK33 => ?_
    refine wp_seq_k fun K34 hK34 => ?_
    refine c_region ?_
    refine s_op (o_move (v := (.int .i64 (i : Int))) e27_5 ?_)
    refine s_op (o_move (v := v_l) e27_0 ?_)
    refine s_op (o_lenS Try.underlying66 rfl h_l ?_)
    refine s_op (o_lss (a := (i : Int)) (b := ((l.length : Nat) : Int)) rfl rfl ?_)
    refine s_nil ?_
    refine t_norm (hK34 _ _ ?_)
    refine c_cond rfl (fun h35 => ?_) (fun h35 => ?_)
    · -- (i : Int) < ((l.length : Nat) : Int)
      refine wp_skip ?_
      refine t_norm (hK33 _ _ ?_)
      refine wp_seq_k fun K36 hK36 => ?_
      refine wp_block ?_
      refine wp_seq_k fun K37 hK37 => ?_
      obtain ⟨x38, hx39⟩ : ∃ x_, l[((i : Int)).toNat]? = some x_ := get_some (by omega)
      let J41 : (Nat → Value) → World → Prop := fun r__ w__ => ∃ (t4 : Tab) (sg4 : List Hp), Has E w__ [sg4, so, R] ∧ (TbAt b18 sg4 (⟨t4⟩ : TabS)) ∧ (LkB t4 (i + 1)) ∧ (LkS t4) ∧ ((t4.map (·.1)).Nodup) ∧ (LkI t4 (withS x38.own (!true) ow)) ∧ r__ 0 = v_l ∧ r__ 3 = (.pointer (some ⟨b18, 0, none⟩)) ∧ r__ 4 = vo ∧ r__ 5 = (.int .i64 (i : Int)) ∧ r__ 21 = (.bool false) ∧ r__ 27 = (.bool (decide ((i : Int) < ((l.length : Nat) : Int))))
      have hJ42 : ∀ r w, J41 r w → K37 (Go.Q.fr 192 r) w := by
        rintro r45 w43 ⟨t4, sg4, hH44, ht4, hb4, hs4, hd4, hi4, e40_0, e40_3, e40_4, e40_5, e40_21, e40_27⟩
        refine hK37 _ _ ?_
        refine wp_seq_k fun K46 hK46 => ?_
        refine c_region ?_
        refine s_op (o_move (v := vo) e40_4 ?_)
        refine s_op (o_move (v := v_l) e40_0 ?_)
        refine s_op (o_move (v := (.int .i64 (i : Int))) e40_5 ?_)
        refine s_op (o_indexF laC_len Try.underlying66 ti71 rfl h_l rfl rfl (by omega) hx39 fun b47 o48 hc49 => ?_)
        refine s_op (o_fieldAddr (k := o48 + 1) (fun _ => by kernel_rfl) rfl ?_)
        refine s_op (o_load1 (v := (.int .i64 x38.own)) Try.underlying3 rfl rfl hH44 (seg_sub 2 rfl) (CellsAt.field (k := 1) (ds := [(.int .i64 x38.own)]) hc49 rfl) ?_)
        refine s_op (o_callf (vs := #[vo, (.int .i64 x38.own), (.bool true)]) ca42 rfl (args3 rfl rfl rfl) (with_c hH44.all (l := ow) (hoo.sl.mono (seg_sub 1 rfl)) (by omega) x38.own true) ?_)
        rintro _ w55 ⟨v50, s51, rfl, ho52, hX53⟩
        refine ⟨_, rfl, ?_⟩
        have hH54 : Has E w55 [s51, sg4, so, R] := hX53.of_all1
        refine s_op (o_assign (v := v50) rfl ?_)
        refine s_nil ?_
        refine t_norm (hK46 _ _ ?_)
        refine wp_seq_k fun K56 hK56 => ?_
        refine c_region ?_
        refine s_op (o_assign (v := (.int .i64 0)) rfl ?_)
        refine s_nil ?_
        refine t_norm (hK56 _ _ ?_)
        refine wp_block ?_
        have hwi_ := hi4
        have hst_ := hs4
        have hsw_ : (withS x38.own (!true) ow).Pairwise (· < ·) := with_sorted hso
        have hle_ : (withS x38.own (!true) ow).length ≤ 1000 := by have h8_ := (withS_len x38.own ow hso).1; simp only [Bool.not_true]; split at h8_ <;> omega
        let I58 : Nat → (Nat → Value) → World → Prop := fun n__ r__ w__ => ∃ (a : Nat), n__ = (withS x38.own (!true) ow).length - a ∧ Has E w__ [s51, sg4, so, R] ∧ (a ≤ (withS x38.own (!true) ow).length) ∧ r__ 0 = v_l ∧ r__ 3 = (.pointer (some ⟨b18, 0, none⟩)) ∧ r__ 4 = v50 ∧ r__ 5 = (.int .i64 (i : Int)) ∧ r__ 6 = (.int .i64 (a : Int)) ∧ r__ 21 = (.bool false) ∧ r__ 27 = (.bool (decide ((i : Int) < ((l.length : Nat) : Int))))
        refine c_loop I58 _ ⟨0, rfl, hH54, Nat.zero_le _, e40_0, e40_3, rfl, e40_5, rfl, e40_21, e40_27⟩ ?_
        rintro n_ r61 w59 ⟨a, rfl, hH60, ha, e57_0, e57_3, e57_4, e57_5, e57_6, e57_21, e57_27⟩
        refine wp_seq_k fun K62 hK62 => ?_
        refine wp_seq_k fun K63 hK63 => ?_
        refine c_region ?_
        refine s_op (o_move (v := (.int .i64 (a : Int))) e57_6 ?_)
        refine s_op (o_move (v := v50) e57_4 ?_)
        refine s_op (o_lenS Try.underlying54 rfl ho52.sl ?_)
        refine s_op (o_lss (a := (a : Int)) (b := (((withS x38.own (!true) ow).length : Nat) : Int)) rfl rfl ?_)
        refine s_nil ?_
        refine t_norm (hK63 _ _ ?_)
        refine c_cond rfl (fun h64 => ?_) (fun h64 => ?_)
        · -- (a : Int) < (((withS x38.own (!true) ow).length : Nat) : Int)
          refine wp_skip ?_
          refine t_norm (hK62 _ _ ?_)
          refine wp_seq_k fun K65 hK65 => ?_
          refine wp_block ?_
          refine wp_seq_k fun K66 hK66 => ?_
          refine c_region ?_
          refine s_op (o_move (v := (.pointer (some ⟨b18, 0, none⟩))) e57_3 ?_)
          refine s_op (o_move (v := v50) e57_4 ?_)
          refine s_op (o_move (v := (.int .i64 (a : Int))) e57_6 ?_)
          obtain ⟨x70, hx71⟩ : ∃ x_, (withS x38.own (!true) ow)[((a : Int)).toNat]? = some x_ := get_some (by omega)
          refine s_op (o_index1 Try.underlying54 ti3 rfl ho52.sl rfl (by omega) hx71 fun b67 o68 hc69 => ?_)
          refine s_op (o_load1 (v := (.int .i64 x70)) Try.underlying3 rfl rfl hH60 (seg_sub 0 rfl) hc69 ?_)
          refine s_op (o_callf (vs := #[(.pointer (some ⟨b18, 0, none⟩)), (.int .i64 x70)]) ca43 rfl (args2 rfl rfl) (holds_c (v := (⟨t4⟩ : TabS)) (o := x70) hH60.all (ht4.rd.mono (seg_sub 1 rfl)) (hb4.hkl) (hb4.hkn (by omega))) ?_)
          rintro _ w77 ⟨v72, s73, rfl, ho74, hX75⟩
          refine ⟨_, rfl, ?_⟩
          have hH76 : Has E w77 [s73, s51, sg4, so, R] := hX75.of_all1
          refine s_op (o_assign (v := v72) rfl ?_)
          refine s_nil ?_
          refine t_norm (hK66 _ _ ?_)
          refine wp_seq_k fun K78 hK78 => ?_
          refine c_region ?_
          refine s_op (o_move (v := (.pointer (some ⟨b18, 0, none⟩))) e57_3 ?_)
          refine s_op (o_move (v := v50) e57_4 ?_)
          refine s_op (o_move (v := (.int .i64 (a : Int))) e57_6 ?_)
          refine s_op (o_index1 Try.underlying54 ti3 rfl ho52.sl rfl (by omega) hx71 fun b79 o80 hc81 => ?_)
          refine s_op (o_load1 (v := (.int .i64 x70)) Try.underlying3 rfl rfl hH76 (seg_sub 1 rfl) hc81 ?_)
          refine s_op (o_callf (vs := #[(.pointer (some ⟨b18, 0, none⟩)), (.int .i64 x70)]) ca44 rfl (args2 rfl rfl) (waits_c (v := (⟨t4⟩ : TabS)) (o := x70) hH76.all (ht4.rd.mono (seg_sub 2 rfl)) (hb4.hkl) (hb4.hkn (by omega))) ?_)
          rintro _ w84 ⟨rfl, hX82⟩
          refine ⟨_, rfl, ?_⟩
          have hH83 := hX82.of_all
          refine s_op (o_move (v := (.tuple #[(.agg #[(S (((waitsS (⟨t4⟩ : TabS).keys x70).map (·.key)).getD [])), (.bool (((waitsS (⟨t4⟩ : TabS).keys x70).map (·.wr)).getD false))]), (.bool ((waitsS (⟨t4⟩ : TabS).keys x70).isSome))])) rfl ?_)
          refine s_op (o_extract (v := (.agg #[(S (((waitsS (⟨t4⟩ : TabS).keys x70).map (·.key)).getD [])), (.bool (((waitsS (⟨t4⟩ : TabS).keys x70).map (·.wr)).getD false))])) rfl rfl ?_)
          refine s_op (o_extract (v := (.bool ((waitsS (⟨t4⟩ : TabS).keys x70).isSome))) rfl rfl ?_)
          refine s_op (o_alloc (cs := #[(S ([] : List UInt8)), (.bool false)]) ti74 rfl hH83 fun b85 w86 hH87 => ?_)
          refine s_eff (o_storeN (vs := [(S (((waitsS (⟨t4⟩ : TabS).keys x70).map (·.key)).getD [])), (.bool (((waitsS (⟨t4⟩ : TabS).keys x70).map (·.wr)).getD false))]) (c' := #[(S (((waitsS (⟨t4⟩ : TabS).keys x70).map (·.key)).getD [])), (.bool (((waitsS (⟨t4⟩ : TabS).keys x70).map (·.wr)).getD false))]) ti74 rfl rfl rfl rfl (by intro u hu; simp only [List.mem_cons, List.not_mem_nil, or_false] at hu; rcases hu with rfl | rfl <;> first | rfl) (by simp) (by kernel_rfl) (hH87.front 0 rfl) fun w88 hH89 => ?_)
          refine s_op (o_assign (v := (.bool ((waitsS (⟨t4⟩ : TabS).keys x70).isSome))) rfl ?_)
          refine s_nil ?_
          refine t_norm (hK78 _ _ ?_)
          refine wp_seq_k fun K90 hK90 => ?_
          refine c_region ?_
          refine s_op (o_move (v := (.bool ((waitsS (⟨t4⟩ : TabS).keys x70).isSome))) rfl ?_)
          refine s_op (o_not rfl ?_)
          refine s_op (o_assign (v := (.bool (!((waitsS (⟨t4⟩ : TabS).keys x70).isSome)))) rfl ?_)
          refine s_nil ?_
          refine t_norm (hK90 _ _ ?_)
          refine wp_seq_k fun K91 hK91 => ?_
          refine wp_seq_k fun K92 hK92 => ?_
          refine c_region ?_
          refine s_op (o_assign (v := (.int .i64 0)) rfl ?_)
          refine s_nil ?_
          refine t_norm (hK92 _ _ ?_)
          refine wp_block ?_
          have hck_ : True := trivial
          let I94 : Nat → (Nat → Value) → World → Prop := fun n__ r__ w__ => ∃ (b : Nat) (sm : Bool), n__ = (withS x38.own (!true) ow).length - b ∧ Has E w__ [[Hp.one b85 (.cells #[(S (((waitsS (⟨t4⟩ : TabS).keys x70).map (·.key)).getD [])), (.bool (((waitsS (⟨t4⟩ : TabS).keys x70).map (·.wr)).getD false))] 74 (0, 0))], s73, s51, sg4, so, R] ∧ (b ≤ (withS x38.own (!true) ow).length) ∧ (sm = true ∨ ((waitsS (⟨t4⟩ : TabS).keys x70).isSome = true ∧ ∀ j, j < b → ∀ z, (withS x38.own (!true) ow)[j]? = some z → ∀ y ∈ holdsC (⟨t4⟩ : TabS).keys z, y.1 ≠ (((waitsS (⟨t4⟩ : TabS).keys x70).map (·.key)).getD []))) ∧ r__ 0 = v_l ∧ r__ 3 = (.pointer (some ⟨b18, 0, none⟩)) ∧ r__ 4 = v50 ∧ r__ 5 = (.int .i64 (i : Int)) ∧ r__ 6 = (.int .i64 (a : Int)) ∧ r__ 7 = v72 ∧ r__ 8 = (.pointer (some ⟨b85, 0, none⟩)) ∧ r__ 9 = (.bool ((waitsS (⟨t4⟩ : TabS).keys x70).isSome)) ∧ r__ 10 = (.bool sm) ∧ r__ 11 = (.int .i64 (b : Int)) ∧ r__ 21 = (.bool false) ∧ r__ 27 = (.bool (decide ((i : Int) < ((l.length : Nat) : Int)))) ∧ r__ 88 = (.bool (decide ((a : Int) < (((withS x38.own (!true) ow).length : Nat) : Int))))
          refine c_loop I94 _ ⟨0, (!((waitsS (⟨t4⟩ : TabS).keys x70).isSome)), rfl, hH89, Nat.zero_le _, (by cases h9_ : (waitsS (⟨t4⟩ : TabS).keys x70).isSome with | false => exact .inl rfl | true => exact .inr ⟨rfl, fun j hj => by omega⟩), e57_0, e57_3, e57_4, e57_5, e57_6, rfl, rfl, rfl, rfl, rfl, e57_21, e57_27, rfl⟩ ?_
          rintro n_ r97 w95 ⟨b, sm, rfl, hH96, hb, hsm, e93_0, e93_3, e93_4, e93_5, e93_6, e93_7, e93_8, e93_9, e93_10, e93_11, e93_21, e93_27, e93_88⟩
          refine wp_seq_k fun K98 hK98 => ?_
          refine wp_seq_k fun K99 hK99 => ?_
          refine c_region ?_
          refine s_op (o_move (v := (.int .i64 (b : Int))) e93_11 ?_)
          refine s_op (o_move (v := v50) e93_4 ?_)
          refine s_op (o_lenS Try.underlying54 rfl ho52.sl ?_)
          refine s_op (o_lss (a := (b : Int)) (b := (((withS x38.own (!true) ow).length : Nat) : Int)) rfl rfl ?_)
          refine s_nil ?_
          refine t_norm (hK99 _ _ ?_)
          refine c_cond rfl (fun h100 => ?_) (fun h100 => ?_)
          · -- (b : Int) < (((withS x38.own (!true) ow).length : Nat) : Int)
            refine wp_skip ?_
            refine t_norm (hK98 _ _ ?_)
            refine wp_seq_k fun K101 hK101 => ?_
            refine wp_block ?_
            refine wp_seq_k fun K102 hK102 => ?_
            refine c_region ?_
            refine s_op (o_move (v := (.pointer (some ⟨b18, 0, none⟩))) e93_3 ?_)
            refine s_op (o_move (v := v50) e93_4 ?_)
            refine s_op (o_move (v := (.int .i64 (b : Int))) e93_11 ?_)
            obtain ⟨x106, hx107⟩ : ∃ x_, (withS x38.own (!true) ow)[((b : Int)).toNat]? = some x_ := get_some (by omega)
            refine s_op (o_index1 Try.underlying54 ti3 rfl ho52.sl rfl (by omega) hx107 fun b103 o104 hc105 => ?_)
            refine s_op (o_load1 (v := (.int .i64 x106)) Try.underlying3 rfl rfl hH96 (seg_sub 2 rfl) hc105 ?_)
            refine s_op (o_callf (vs := #[(.pointer (some ⟨b18, 0, none⟩)), (.int .i64 x106)]) ca43 rfl (args2 rfl rfl) (holds_c (v := (⟨t4⟩ : TabS)) (o := x106) hH96.all (ht4.rd.mono (seg_sub 3 rfl)) (hb4.hkl) (hb4.hkn (by omega))) ?_)
            rintro _ w113 ⟨v108, s109, rfl, ho110, hX111⟩
            refine ⟨_, rfl, ?_⟩
            have hH112 : Has E w113 [s109, [Hp.one b85 (.cells #[(S (((waitsS (⟨t4⟩ : TabS).keys x70).map (·.key)).getD [])), (.bool (((waitsS (⟨t4⟩ : TabS).keys x70).map (·.wr)).getD false))] 74 (0, 0))], s73, s51, sg4, so, R] := hX111.of_all1
            refine s_op (o_assign (v := v108) rfl ?_)
            refine s_nil ?_
            refine t_norm (hK102 _ _ ?_)
            refine wp_seq_k fun K114 hK114 => ?_
            refine c_region ?_
            refine s_op (o_assign (v := (.int .i64 0)) rfl ?_)
            refine s_nil ?_
            refine t_norm (hK114 _ _ ?_)
            refine wp_block ?_
            have hly_ := (ho110).sl.le
            let I116 : Nat → (Nat → Value) → World → Prop := fun n__ r__ w__ => ∃ (k : Nat) (sm3 : Bool), n__ = (holdsC (⟨t4⟩ : TabS).keys x106).length - k ∧ Has E w__ [s109, [Hp.one b85 (.cells #[(S (((waitsS (⟨t4⟩ : TabS).keys x70).map (·.key)).getD [])), (.bool (((waitsS (⟨t4⟩ : TabS).keys x70).map (·.wr)).getD false))] 74 (0, 0))], s73, s51, sg4, so, R] ∧ (k ≤ (holdsC (⟨t4⟩ : TabS).keys x106).length) ∧ (sm3 = true ∨ (((waitsS (⟨t4⟩ : TabS).keys x70).isSome = true ∧ ∀ j, j < b → ∀ z, (withS x38.own (!true) ow)[j]? = some z → ∀ y ∈ holdsC (⟨t4⟩ : TabS).keys z, y.1 ≠ (((waitsS (⟨t4⟩ : TabS).keys x70).map (·.key)).getD [])) ∧ ∀ y ∈ (holdsC (⟨t4⟩ : TabS).keys x106).take k, y.1 ≠ (((waitsS (⟨t4⟩ : TabS).keys x70).map (·.key)).getD []))) ∧ r__ 0 = v_l ∧ r__ 3 = (.pointer (some ⟨b18, 0, none⟩)) ∧ r__ 4 = v50 ∧ r__ 5 = (.int .i64 (i : Int)) ∧ r__ 6 = (.int .i64 (a : Int)) ∧ r__ 7 = v72 ∧ r__ 8 = (.pointer (some ⟨b85, 0, none⟩)) ∧ r__ 9 = (.bool ((waitsS (⟨t4⟩ : TabS).keys x70).isSome)) ∧ r__ 10 = (.bool sm3) ∧ r__ 11 = (.int .i64 (b : Int)) ∧ r__ 12 = v108 ∧ r__ 13 = (.int .i64 (k : Int)) ∧ r__ 21 = (.bool false) ∧ r__ 27 = (.bool (decide ((i : Int) < ((l.length : Nat) : Int)))) ∧ r__ 88 = (.bool (decide ((a : Int) < (((withS x38.own (!true) ow).length : Nat) : Int)))) ∧ r__ 111 = (.bool (decide ((b : Int) < (((withS x38.own (!true) ow).length : Nat) : Int))))
            refine c_loop I116 _ ⟨0, sm, rfl, hH112, Nat.zero_le _, hsm.imp id fun g_ => ⟨g_, by simp⟩, e93_0, e93_3, e93_4, e93_5, e93_6, e93_7, e93_8, e93_9, e93_10, e93_11, rfl, rfl, e93_21, e93_27, e93_88, rfl⟩ ?_
            rintro n_ r119 w117 ⟨k, sm3, rfl, hH118, hk, hsm3, e115_0, e115_3, e115_4, e115_5, e115_6, e115_7, e115_8, e115_9, e115_10, e115_11, e115_12, e115_13, e115_21, e115_27, e115_88, e115_111⟩
            refine wp_seq_k fun K120 hK120 => ?_
            refine wp_seq_k fun K121 hK121 => ?_
            refine c_region ?_
            refine s_op (o_move (v := (.int .i64 (k : Int))) e115_13 ?_)
            refine s_op (o_move (v := v108) e115_12 ?_)
            refine s_op (o_lenS Try.underlying78 rfl ho110.sl ?_)
            refine s_op (o_lss (a := (k : Int)) (b := (((holdsC (⟨t4⟩ : TabS).keys x106).length : Nat) : Int)) rfl rfl ?_)
            refine s_nil ?_
            refine t_norm (hK121 _ _ ?_)
            refine c_cond rfl (fun h122 => ?_) (fun h122 => ?_)
            · -- (k : Int) < (((holdsC (⟨t4⟩ : TabS).keys x106).length : Nat) : Int)
              refine wp_skip ?_
              refine t_norm (hK120 _ _ ?_)
              refine wp_seq_k fun K123 hK123 => ?_
              refine wp_block ?_
              refine wp_seq_k fun K124 hK124 => ?_
              refine Rest.region mixed (by kernel_rfl) ?_
              have hH125 : Has E { w117 with drawn := w117.drawn + 1 } [s109, [Hp.one b85 (.cells #[(S (((waitsS (⟨t4⟩ : TabS).keys x70).map (·.key)).getD [])), (.bool (((waitsS (⟨t4⟩ : TabS).keys x70).map (·.wr)).getD false))] 74 (0, 0))], s73, s51, sg4, so, R] := Has0.drew hH118 _
              refine r_op 0 rfl (by kernel_rfl) (o_move (v := (.bool sm3)) e115_10 ?_)
              refine r_op 1 rfl (by kernel_rfl) (o_move (v := (.bool sm3)) rfl ?_)
              refine Rest.phaseA (fun w_ => Has E w_ [s109, [Hp.one b85 (.cells #[(S (((waitsS (⟨t4⟩ : TabS).keys x70).map (·.key)).getD [])), (.bool (((waitsS (⟨t4⟩ : TabS).keys x70).map (·.wr)).getD false))] 74 (0, 0))]]) 2 9 7 rfl (by decide) (by kernel_rfl) ?_
              rcases Bool.eq_false_or_eq_true sm3 with h126 | h126
              · -- sm3
                refine a_off (b' := true) 2 rfl (by kernel_rfl) 127 rfl (congrArg Value.bool h126) rfl ?_
                refine a_off (b' := true) 3 rfl (by kernel_rfl) 127 rfl (congrArg Value.bool h126) rfl ?_
                refine a_off (b' := true) 4 rfl (by kernel_rfl) 127 rfl (congrArg Value.bool h126) rfl ?_
                refine a_off (b' := true) 5 rfl (by kernel_rfl) 127 rfl (congrArg Value.bool h126) rfl ?_
                refine a_off (b' := true) 6 rfl (by kernel_rfl) 127 rfl (congrArg Value.bool h126) rfl ?_
                refine a_off (b' := true) 7 rfl (by kernel_rfl) 127 rfl (congrArg Value.bool h126) rfl ?_
                refine a_off (b' := true) 8 rfl (by kernel_rfl) 127 rfl (congrArg Value.bool h126) rfl ?_
                have hH127 : Has E { w117 with drawn := w117.drawn + 1 } [s109, [Hp.one b85 (.cells #[(S (((waitsS (⟨t4⟩ : TabS).keys x70).map (·.key)).getD [])), (.bool (((waitsS (⟨t4⟩ : TabS).keys x70).map (·.wr)).getD false))] 74 (0, 0))]] := ((hH125.front 1 rfl).front 1 rfl).first 2 rfl
                refine a_done (by kernel_rfl) hH127 ?_
                refine r_off (b' := true) 9 rfl (by kernel_rfl) 127 rfl (congrArg Value.bool h126) rfl ?_
                refine r_op 10 rfl (by kernel_rfl) (o_pick_t (u := (.bool true)) ((rfl : _ = _).trans (congrArg Value.bool h126)) rfl ?_)
                refine r_op 11 rfl (by kernel_rfl) (o_assign (v := (.bool true)) rfl ?_)
                refine Rest.done (by kernel_rfl) ?_
                refine t_norm (hK124 _ _ ?_)
                refine wp_seq_k fun K128 hK128 => ?_
                refine c_region ?_
                refine s_op (o_assign (v := (.int .i64 0)) rfl ?_)
                refine s_nil ?_
                refine t_norm (hK128 _ _ ?_)
                refine wp_block ?_
                have hlx_ := (ho74).sl.le
                obtain ⟨x129, hx130⟩ : ∃ x_, (holdsC (⟨t4⟩ : TabS).keys x106)[((k : Int)).toNat]? = some x_ := get_some (by omega)
                have hsm4 : true = true ∨ (((waitsS (⟨t4⟩ : TabS).keys x70).isSome = true ∧ ∀ j, j < b → ∀ z, (withS x38.own (!true) ow)[j]? = some z → ∀ y ∈ holdsC (⟨t4⟩ : TabS).keys z, y.1 ≠ (((waitsS (⟨t4⟩ : TabS).keys x70).map (·.key)).getD [])) ∧ ∀ y ∈ (holdsC (⟨t4⟩ : TabS).keys x106).take (k + 1), y.1 ≠ (((waitsS (⟨t4⟩ : TabS).keys x70).map (·.key)).getD [])) := by
                  first | exact .inl rfl | exact .inl (by assumption) | exact .inl (by simp [*]) | (refine .inr ?_; have h9_ := hsm3.resolve_left (by simp [*]); refine ⟨h9_.1, fun w_ hw_ => ?_⟩; rw [take_succ_of (show (holdsC (⟨t4⟩ : TabS).keys x106)[k]? = some _ from hx130)] at hw_; rcases List.mem_append.1 hw_ with g_ | g_; exact h9_.2 w_ g_; rw [List.mem_singleton.1 g_]; assumption)
                let I132 : Nat → (Nat → Value) → World → Prop := fun n__ r__ w__ => ∃ (j : Nat), n__ = (holdsC (⟨t4⟩ : TabS).keys x70).length - j ∧ Has E w__ [s109, [Hp.one b85 (.cells #[(S (((waitsS (⟨t4⟩ : TabS).keys x70).map (·.key)).getD [])), (.bool (((waitsS (⟨t4⟩ : TabS).keys x70).map (·.wr)).getD false))] 74 (0, 0))], s73, s51, sg4, so, R] ∧ (j ≤ (holdsC (⟨t4⟩ : TabS).keys x70).length) ∧ r__ 0 = v_l ∧ r__ 3 = (.pointer (some ⟨b18, 0, none⟩)) ∧ r__ 4 = v50 ∧ r__ 5 = (.int .i64 (i : Int)) ∧ r__ 6 = (.int .i64 (a : Int)) ∧ r__ 7 = v72 ∧ r__ 8 = (.pointer (some ⟨b85, 0, none⟩)) ∧ r__ 9 = (.bool ((waitsS (⟨t4⟩ : TabS).keys x70).isSome)) ∧ r__ 10 = (.bool true) ∧ r__ 11 = (.int .i64 (b : Int)) ∧ r__ 12 = v108 ∧ r__ 13 = (.int .i64 (k : Int)) ∧ r__ 14 = (.int .i64 (j : Int)) ∧ r__ 21 = (.bool false) ∧ r__ 27 = (.bool (decide ((i : Int) < ((l.length : Nat) : Int)))) ∧ r__ 88 = (.bool (decide ((a : Int) < (((withS x38.own (!true) ow).length : Nat) : Int)))) ∧ r__ 111 = (.bool (decide ((b : Int) < (((withS x38.own (!true) ow).length : Nat) : Int)))) ∧ r__ 123 = (.bool (decide ((k : Int) < (((holdsC (⟨t4⟩ : TabS).keys x106).length : Nat) : Int))))
                refine c_loop I132 _ ⟨0, rfl, hH125, Nat.zero_le _, e115_0, e115_3, e115_4, e115_5, e115_6, e115_7, e115_8, e115_9, rfl, e115_11, e115_12, e115_13, rfl, e115_21, e115_27, e115_88, e115_111, rfl⟩ ?_
                rintro n_ r135 w133 ⟨j, rfl, hH134, hj, e131_0, e131_3, e131_4, e131_5, e131_6, e131_7, e131_8, e131_9, e131_10, e131_11, e131_12, e131_13, e131_14, e131_21, e131_27, e131_88, e131_111, e131_123⟩
                refine wp_seq_k fun K136 hK136 => ?_
                refine wp_seq_k fun K137 hK137 => ?_
                refine c_region ?_
                refine s_op (o_move (v := (.int .i64 (j : Int))) e131_14 ?_)
                refine s_op (o_move (v := v72) e131_7 ?_)
                refine s_op (o_lenS Try.underlying78 rfl ho74.sl ?_)
                refine s_op (o_lss (a := (j : Int)) (b := (((holdsC (⟨t4⟩ : TabS).keys x70).length : Nat) : Int)) rfl rfl ?_)
                refine s_op (o_move (v := (.bool (decide ((j : Int) < (((holdsC (⟨t4⟩ : TabS).keys x70).length : Nat) : Int))))) rfl ?_)
                by_cases h138 : (j : Int) < (((holdsC (⟨t4⟩ : TabS).keys x70).length : Nat) : Int)
                · -- (j : Int) < (((holdsC (⟨t4⟩ : TabS).keys x70).length : Nat) : Int)
                  refine s_on 141 rfl (congrArg Value.bool (decide_eq_true h138)) (o_move (v := (.int .i64 (a : Int))) e131_6 ?_)
                  refine s_on 141 rfl (congrArg Value.bool (decide_eq_true h138)) (o_move (v := (.int .i64 (b : Int))) e131_11 ?_)
                  refine s_on 141 rfl (congrArg Value.bool (decide_eq_true h138)) (o_neq (a := (a : Int)) (b := (b : Int)) rfl rfl ?_)
                  refine s_op (o_pick_t (u := (.bool (decide ((a : Int) ≠ (b : Int))))) ((rfl : _ = _).trans (congrArg Value.bool (decide_eq_true h138))) rfl ?_)
                  refine s_nil ?_
                  refine t_norm (hK137 _ _ ?_)
                  refine c_cond rfl (fun h139 => ?_) (fun h139 => ?_)
                  · -- (a : Int) ≠ (b : Int)
                    refine wp_skip ?_
                    refine t_norm (hK136 _ _ ?_)
                    refine wp_seq_k fun K140 hK140 => ?_
                    refine wp_block ?_
                    refine wp_seq_k fun K141 hK141 => ?_
                    refine Rest.region mixed (by kernel_rfl) ?_
                    have hH142 : Has E { w133 with drawn := w133.drawn + 1 } [s109, [Hp.one b85 (.cells #[(S (((waitsS (⟨t4⟩ : TabS).keys x70).map (·.key)).getD [])), (.bool (((waitsS (⟨t4⟩ : TabS).keys x70).map (·.wr)).getD false))] 74 (0, 0))], s73, s51, sg4, so, R] := Has0.drew hH134 _
                    refine Rest.phaseA (fun w_ => Has E w_ [s109, s73]) 0 10 10 rfl (by decide) (by kernel_rfl) ?_
                    refine a_op 0 rfl (by kernel_rfl) (fun w_ h_ => o_move (v := v72) e131_7 ⟨rfl, rfl⟩) ?_
                    refine a_op 1 rfl (by kernel_rfl) (fun w_ h_ => o_move (v := (.int .i64 (j : Int))) e131_14 ⟨rfl, rfl⟩) ?_
                    obtain ⟨x146, hx147⟩ : ∃ x_, (holdsC (⟨t4⟩ : TabS).keys x70)[((j : Int)).toNat]? = some x_ := get_some (by omega)
                    obtain ⟨b143, o144, hc145, ho148⟩ := ix_exF clC_len Try.underlying78 ti74 ho74.sl (by omega) hx147
                    refine a_op 2 rfl (by kernel_rfl) (fun w_ h_ => ho148 rfl rfl ⟨rfl, rfl⟩) ?_
                    refine a_op 3 rfl (by kernel_rfl) (fun w_ h_ => o_fieldAddr (k := o144) (fun _ => by kernel_rfl) rfl ⟨rfl, rfl⟩) ?_
                    refine a_op 4 rfl (by kernel_rfl) (fun w_ h_ => o_load1 (v := (S x146.1)) Try.underlying9 rfl rfl h_ (seg_sub 1 rfl) (CellsAt.field (k := 0) (ds := [(S x146.1)]) hc145 rfl) ⟨rfl, rfl⟩) ?_
                    refine a_op 5 rfl (by kernel_rfl) (fun w_ h_ => o_move (v := v108) e131_12 ⟨rfl, rfl⟩) ?_
                    refine a_op 6 rfl (by kernel_rfl) (fun w_ h_ => o_move (v := (.int .i64 (k : Int))) e131_13 ⟨rfl, rfl⟩) ?_
                    obtain ⟨b149, o150, hc151, ho152⟩ := ix_exF clC_len Try.underlying78 ti74 ho110.sl (by omega) hx130
                    refine a_op 7 rfl (by kernel_rfl) (fun w_ h_ => ho152 rfl rfl ⟨rfl, rfl⟩) ?_
                    refine a_op 8 rfl (by kernel_rfl) (fun w_ h_ => o_fieldAddr (k := o150) (fun _ => by kernel_rfl) rfl ⟨rfl, rfl⟩) ?_
                    refine a_op 9 rfl (by kernel_rfl) (fun w_ h_ => o_load1 (v := (S x129.1)) Try.underlying9 rfl rfl h_ (seg_sub 0 rfl) (CellsAt.field (k := 0) (ds := [(S x129.1)]) hc151 rfl) ⟨rfl, rfl⟩) ?_
                    have hH153 : Has E { w133 with drawn := w133.drawn + 1 } [s109, s73] := ((hH142.front 2 rfl).front 1 rfl).first 2 rfl
                    refine a_done (by kernel_rfl) hH153 ?_
                    refine r_op 10 rfl (by kernel_rfl) (o_seql (a := x146.1) (b := x129.1) rfl rfl ?_)
                    refine r_op 11 rfl (by kernel_rfl) (o_move (v := (.bool (decide (x146.1 = x129.1)))) rfl ?_)
                    refine Rest.phaseA (fun w_ => Has E w_ []) 12 14 2 rfl (by decide) (by kernel_rfl) ?_
                    by_cases h154 : x146.1 = x129.1
                    · -- x146.1 = x129.1
                      refine a_on 12 rfl (by kernel_rfl) 159 rfl (congrArg Value.bool (decide_eq_true h154)) (fun w_ h_ => o_move (v := v72) e131_7 ⟨rfl, rfl⟩) ?_
                      refine a_on 13 rfl (by kernel_rfl) 159 rfl (congrArg Value.bool (decide_eq_true h154)) (fun w_ h_ => o_move (v := (.int .i64 (j : Int))) e131_14 ⟨rfl, rfl⟩) ?_
                      have hH155 : Has E { w133 with drawn := w133.drawn + 1 } [] := hH142.first 0 rfl
                      refine a_done (by kernel_rfl) hH155 ?_
                      refine r_on 14 rfl (by kernel_rfl) 159 rfl (congrArg Value.bool (decide_eq_true h154)) (o_indexF clC_len Try.underlying78 ti74 rfl ho74.sl rfl rfl (by omega) hx147 fun b156 o157 hc158 => ?_)
                      refine r_on 15 rfl (by kernel_rfl) 159 rfl (congrArg Value.bool (decide_eq_true h154)) (o_fieldAddr (k := o157 + 1) (fun _ => by kernel_rfl) rfl ?_)
                      refine r_on 16 rfl (by kernel_rfl) 159 rfl (congrArg Value.bool (decide_eq_true h154)) (o_load1 (v := (.bool x146.2)) Try.underlying4 rfl rfl hH142 (seg_sub 2 rfl) (CellsAt.field (k := 1) (ds := [(.bool x146.2)]) hc158 rfl) ?_)
                      refine r_on 17 rfl (by kernel_rfl) 159 rfl (congrArg Value.bool (decide_eq_true h154)) (o_move (v := (.bool x146.2)) rfl ?_)
                      refine Rest.phaseA (fun w_ => Has E w_ []) 18 20 2 rfl (by decide) (by kernel_rfl) ?_
                      rcases Bool.eq_false_or_eq_true x146.2 with h159 | h159
                      · -- x146.2
                        exact absurd ((safe1 hwi_ (List.mem_of_getElem? hx147) (List.mem_of_getElem? hx130) (nodup_ne (sorted_nodup hsw_) (show (withS x38.own (!true) ow)[a]? = some _ from hx71) (show (withS x38.own (!true) ow)[b]? = some _ from hx107) (by omega)) h154).1) (by rw [h159]; decide)
                      · -- not: x146.2
                        refine a_on 18 rfl (by kernel_rfl) 165 rfl (congrArg Value.bool h159) (fun w_ h_ => o_move (v := v108) e131_12 ⟨rfl, rfl⟩) ?_
                        refine a_on 19 rfl (by kernel_rfl) 165 rfl (congrArg Value.bool h159) (fun w_ h_ => o_move (v := (.int .i64 (k : Int))) e131_13 ⟨rfl, rfl⟩) ?_
                        have hH160 : Has E { w133 with drawn := w133.drawn + 1 } [] := hH142.first 0 rfl
                        refine a_done (by kernel_rfl) hH160 ?_
                        refine r_on 20 rfl (by kernel_rfl) 165 rfl (congrArg Value.bool h159) (o_indexF clC_len Try.underlying78 ti74 rfl ho110.sl rfl rfl (by omega) hx130 fun b161 o162 hc163 => ?_)
                        refine r_on 21 rfl (by kernel_rfl) 165 rfl (congrArg Value.bool h159) (o_fieldAddr (k := o162 + 1) (fun _ => by kernel_rfl) rfl ?_)
                        refine r_on 22 rfl (by kernel_rfl) 165 rfl (congrArg Value.bool h159) (o_load1 (v := (.bool x129.2)) Try.underlying4 rfl rfl hH142 (seg_sub 0 rfl) (CellsAt.field (k := 1) (ds := [(.bool x129.2)]) hc163 rfl) ?_)
                        refine r_on 23 rfl (by kernel_rfl) 159 rfl (congrArg Value.bool (decide_eq_true h154)) (o_pick_f (u := (.bool x129.2)) ((rfl : _ = _).trans (congrArg Value.bool h159)) rfl ?_)
                        refine r_op 24 rfl (by kernel_rfl) (o_pick_t (u := (.bool x129.2)) ((rfl : _ = _).trans (congrArg Value.bool (decide_eq_true h154))) rfl ?_)
                        refine Rest.done (by kernel_rfl) ?_
                        refine t_norm (hK141 _ _ ?_)
                        refine c_condb rfl (fun h164 => ?_) (fun h164 => ?_)
                        · -- x129.2
                          exact absurd ((safe1 hwi_ (List.mem_of_getElem? hx147) (List.mem_of_getElem? hx130) (nodup_ne (sorted_nodup hsw_) (show (withS x38.own (!true) ow)[a]? = some _ from hx71) (show (withS x38.own (!true) ow)[b]? = some _ from hx107) (by omega)) h154).2) (by rw [h164]; decide)
                        · -- not: x129.2
                          refine wp_skip ?_
                          refine b_norm ?_
                          refine t_norm (hK140 _ _ ?_)
                          refine c_region ?_
                          refine s_op (o_move (v := (.int .i64 (j : Int))) e131_14 ?_)
                          refine s_op (o_add (a := (j : Int)) (b := 1) rfl rfl (w64 (by omega) (by omega)) ?_)
                          refine s_op (o_assign (v := (.int .i64 ((j : Int) + 1))) rfl ?_)
                          refine s_nil ?_
                          refine t_norm ⟨(holdsC (⟨t4⟩ : TabS).keys x70).length - (j + 1), _, rfl, ?_, ?_⟩
                          · omega
                          · exact ⟨(j + 1), rfl, hH142, (by omega), e131_0, e131_3, e131_4, e131_5, e131_6, e131_7, e131_8, e131_9, e131_10, e131_11, e131_12, e131_13, rfl, e131_21, e131_27, e131_88, e131_111, e131_123⟩
                    · -- not: x146.1 = x129.1
                      refine a_off (b' := false) 12 rfl (by kernel_rfl) 159 rfl (congrArg Value.bool (decide_eq_false h154)) rfl ?_
                      refine a_off (b' := false) 13 rfl (by kernel_rfl) 159 rfl (congrArg Value.bool (decide_eq_false h154)) rfl ?_
                      have hH165 : Has E { w133 with drawn := w133.drawn + 1 } [] := hH142.first 0 rfl
                      refine a_done (by kernel_rfl) hH165 ?_
                      refine r_off (b' := false) 14 rfl (by kernel_rfl) 159 rfl (congrArg Value.bool (decide_eq_false h154)) rfl ?_
                      refine r_off (b' := false) 15 rfl (by kernel_rfl) 159 rfl (congrArg Value.bool (decide_eq_false h154)) rfl ?_
                      refine r_off (b' := false) 16 rfl (by kernel_rfl) 159 rfl (congrArg Value.bool (decide_eq_false h154)) rfl ?_
                      refine r_off (b' := false) 17 rfl (by kernel_rfl) 159 rfl (congrArg Value.bool (decide_eq_false h154)) rfl ?_
                      refine Rest.phaseA (fun w_ => Has E w_ []) 18 20 2 rfl (by decide) (by kernel_rfl) ?_
                      refine a_offu 18 rfl (by kernel_rfl) 165 rfl rfl ?_
                      refine a_offu 19 rfl (by kernel_rfl) 165 rfl rfl ?_
                      have hH166 : Has E { w133 with drawn := w133.drawn + 1 } [] := hH142.first 0 rfl
                      refine a_done (by kernel_rfl) hH166 ?_
                      refine r_offu 20 rfl (by kernel_rfl) 165 rfl rfl ?_
                      refine r_offu 21 rfl (by kernel_rfl) 165 rfl rfl ?_
                      refine r_offu 22 rfl (by kernel_rfl) 165 rfl rfl ?_
                      refine r_off (b' := false) 23 rfl (by kernel_rfl) 159 rfl (congrArg Value.bool (decide_eq_false h154)) rfl ?_
                      refine r_op 24 rfl (by kernel_rfl) (o_pick_f (u := (.bool false)) ((rfl : _ = _).trans (congrArg Value.bool (decide_eq_false h154))) rfl ?_)
                      refine Rest.done (by kernel_rfl) ?_
                      refine t_norm (hK141 _ _ ?_)
                      refine c_false rfl rfl ?_
                      refine wp_skip ?_
                      refine b_norm ?_
                      refine t_norm (hK140 _ _ ?_)
                      refine c_region ?_
                      refine s_op (o_move (v := (.int .i64 (j : Int))) e131_14 ?_)
                      refine s_op (o_add (a := (j : Int)) (b := 1) rfl rfl (w64 (by omega) (by omega)) ?_)
                      refine s_op (o_assign (v := (.int .i64 ((j : Int) + 1))) rfl ?_)
                      refine s_nil ?_
                      refine t_norm ⟨(holdsC (⟨t4⟩ : TabS).keys x70).length - (j + 1), _, rfl, ?_, ?_⟩
                      · omega
                      · exact ⟨(j + 1), rfl, hH142, (by omega), e131_0, e131_3, e131_4, e131_5, e131_6, e131_7, e131_8, e131_9, e131_10, e131_11, e131_12, e131_13, rfl, e131_21, e131_27, e131_88, e131_111, e131_123⟩
                  · -- not: (a : Int) ≠ (b : Int)
                    refine wp_exit ?_
                    refine t_exit (t_exit (x_in (?_)))
                    refine b_norm ?_
                    refine t_norm (hK123 _ _ ?_)
                    refine c_region ?_
                    refine s_op (o_move (v := (.int .i64 (k : Int))) e131_13 ?_)
                    refine s_op (o_add (a := (k : Int)) (b := 1) rfl rfl (w64 (by omega) (by omega)) ?_)
                    refine s_op (o_assign (v := (.int .i64 ((k : Int) + 1))) rfl ?_)
                    refine s_nil ?_
                    refine t_norm ⟨(holdsC (⟨t4⟩ : TabS).keys x106).length - (k + 1), _, rfl, ?_, ?_⟩
                    · omega
                    · exact ⟨(k + 1), true, rfl, hH134, (by omega), (hsm4), e131_0, e131_3, e131_4, e131_5, e131_6, e131_7, e131_8, e131_9, e131_10, e131_11, e131_12, rfl, e131_21, e131_27, e131_88, e131_111⟩
                · -- not: (j : Int) < (((holdsC (⟨t4⟩ : TabS).keys x70).length : Nat) : Int)
                  refine s_off (b' := false) 141 rfl (congrArg Value.bool (decide_eq_false h138)) rfl ?_
                  refine s_off (b' := false) 141 rfl (congrArg Value.bool (decide_eq_false h138)) rfl ?_
                  refine s_off (b' := false) 141 rfl (congrArg Value.bool (decide_eq_false h138)) rfl ?_
                  refine s_op (o_pick_f (u := (.bool false)) ((rfl : _ = _).trans (congrArg Value.bool (decide_eq_false h138))) rfl ?_)
                  refine s_nil ?_
                  refine t_norm (hK137 _ _ ?_)
                  refine c_false rfl rfl ?_
                  refine wp_exit ?_
                  refine t_exit (t_exit (x_in (?_)))
                  refine b_norm ?_
                  refine t_norm (hK123 _ _ ?_)
                  refine c_region ?_
                  refine s_op (o_move (v := (.int .i64 (k : Int))) e131_13 ?_)
                  refine s_op (o_add (a := (k : Int)) (b := 1) rfl rfl (w64 (by omega) (by omega)) ?_)
                  refine s_op (o_assign (v := (.int .i64 ((k : Int) + 1))) rfl ?_)
                  refine s_nil ?_
                  refine t_norm ⟨(holdsC (⟨t4⟩ : TabS).keys x106).length - (k + 1), _, rfl, ?_, ?_⟩
                  · omega
                  · exact ⟨(k + 1), true, rfl, hH134, (by omega), (hsm4), e131_0, e131_3, e131_4, e131_5, e131_6, e131_7, e131_8, e131_9, e131_10, e131_11, e131_12, rfl, e131_21, e131_27, e131_88, e131_111⟩
              · -- not: sm3
                refine a_on 2 rfl (by kernel_rfl) 127 rfl (congrArg Value.bool h126) (fun w_ h_ => o_move (v := v108) e115_12 ⟨rfl, rfl⟩) ?_
                refine a_on 3 rfl (by kernel_rfl) 127 rfl (congrArg Value.bool h126) (fun w_ h_ => o_move (v := (.int .i64 (k : Int))) e115_13 ⟨rfl, rfl⟩) ?_
                obtain ⟨x170, hx171⟩ : ∃ x_, (holdsC (⟨t4⟩ : TabS).keys x106)[((k : Int)).toNat]? = some x_ := get_some (by omega)
                obtain ⟨b167, o168, hc169, ho172⟩ := ix_exF clC_len Try.underlying78 ti74 ho110.sl (by omega) hx171
                refine a_on 4 rfl (by kernel_rfl) 127 rfl (congrArg Value.bool h126) (fun w_ h_ => ho172 rfl rfl ⟨rfl, rfl⟩) ?_
                refine a_on 5 rfl (by kernel_rfl) 127 rfl (congrArg Value.bool h126) (fun w_ h_ => o_fieldAddr (k := o168) (fun _ => by kernel_rfl) rfl ⟨rfl, rfl⟩) ?_
                refine a_on 6 rfl (by kernel_rfl) 127 rfl (congrArg Value.bool h126) (fun w_ h_ => o_load1 (v := (S x170.1)) Try.underlying9 rfl rfl h_ (seg_sub 0 rfl) (CellsAt.field (k := 0) (ds := [(S x170.1)]) hc169 rfl) ⟨rfl, rfl⟩) ?_
                refine a_on 7 rfl (by kernel_rfl) 127 rfl (congrArg Value.bool h126) (fun w_ h_ => o_fieldAddr (k := 0) (fun _ => by kernel_rfl) e115_8 ⟨rfl, rfl⟩) ?_
                refine a_on 8 rfl (by kernel_rfl) 127 rfl (congrArg Value.bool h126) (fun w_ h_ => o_load1 (v := (S (((waitsS (⟨t4⟩ : TabS).keys x70).map (·.key)).getD []))) Try.underlying9 rfl rfl h_ (seg_sub 1 rfl) (CellsAt.one rfl) ⟨rfl, rfl⟩) ?_
                have hH173 : Has E { w117 with drawn := w117.drawn + 1 } [s109, [Hp.one b85 (.cells #[(S (((waitsS (⟨t4⟩ : TabS).keys x70).map (·.key)).getD [])), (.bool (((waitsS (⟨t4⟩ : TabS).keys x70).map (·.wr)).getD false))] 74 (0, 0))]] := ((hH125.front 1 rfl).front 1 rfl).first 2 rfl
                refine a_done (by kernel_rfl) hH173 ?_
                refine r_on 9 rfl (by kernel_rfl) 127 rfl (congrArg Value.bool h126) (o_seql (a := x170.1) (b := (((waitsS (⟨t4⟩ : TabS).keys x70).map (·.key)).getD [])) rfl rfl ?_)
                refine r_op 10 rfl (by kernel_rfl) (o_pick_f (u := (.bool (decide (x170.1 = (((waitsS (⟨t4⟩ : TabS).keys x70).map (·.key)).getD []))))) ((rfl : _ = _).trans (congrArg Value.bool h126)) rfl ?_)
                refine r_op 11 rfl (by kernel_rfl) (o_assign (v := (.bool (decide (x170.1 = (((waitsS (⟨t4⟩ : TabS).keys x70).map (·.key)).getD []))))) rfl ?_)
                refine Rest.done (by kernel_rfl) ?_
                refine t_norm (hK124 _ _ ?_)
                refine wp_seq_k fun K174 hK174 => ?_
                refine c_region ?_
                refine s_op (o_assign (v := (.int .i64 0)) rfl ?_)
                refine s_nil ?_
                refine t_norm (hK174 _ _ ?_)
                refine wp_block ?_
                have hlx_ := (ho74).sl.le
                have hsm4 : decide (x170.1 = (((waitsS (⟨t4⟩ : TabS).keys x70).map (·.key)).getD [])) = true ∨ (((waitsS (⟨t4⟩ : TabS).keys x70).isSome = true ∧ ∀ j, j < b → ∀ z, (withS x38.own (!true) ow)[j]? = some z → ∀ y ∈ holdsC (⟨t4⟩ : TabS).keys z, y.1 ≠ (((waitsS (⟨t4⟩ : TabS).keys x70).map (·.key)).getD [])) ∧ ∀ y ∈ (holdsC (⟨t4⟩ : TabS).keys x106).take (k + 1), y.1 ≠ (((waitsS (⟨t4⟩ : TabS).keys x70).map (·.key)).getD [])) := by
                  by_cases hq_ : x170.1 = (((waitsS (⟨t4⟩ : TabS).keys x70).map (·.key)).getD [])
                  · exact .inl (decide_eq_true hq_)
                  · refine .inr ?_; have h9_ := hsm3.resolve_left (by simp [*]); refine ⟨h9_.1, fun w_ hw_ => ?_⟩; rw [take_succ_of (show (holdsC (⟨t4⟩ : TabS).keys x106)[k]? = some _ from hx171)] at hw_; rcases List.mem_append.1 hw_ with g_ | g_; exact h9_.2 w_ g_; rw [List.mem_singleton.1 g_]; exact hq_
                let I176 : Nat → (Nat → Value) → World → Prop := fun n__ r__ w__ => ∃ (j : Nat), n__ = (holdsC (⟨t4⟩ : TabS).keys x70).length - j ∧ Has E w__ [s109, [Hp.one b85 (.cells #[(S (((waitsS (⟨t4⟩ : TabS).keys x70).map (·.key)).getD [])), (.bool (((waitsS (⟨t4⟩ : TabS).keys x70).map (·.wr)).getD false))] 74 (0, 0))], s73, s51, sg4, so, R] ∧ (j ≤ (holdsC (⟨t4⟩ : TabS).keys x70).length) ∧ r__ 0 = v_l ∧ r__ 3 = (.pointer (some ⟨b18, 0, none⟩)) ∧ r__ 4 = v50 ∧ r__ 5 = (.int .i64 (i : Int)) ∧ r__ 6 = (.int .i64 (a : Int)) ∧ r__ 7 = v72 ∧ r__ 8 = (.pointer (some ⟨b85, 0, none⟩)) ∧ r__ 9 = (.bool ((waitsS (⟨t4⟩ : TabS).keys x70).isSome)) ∧ r__ 10 = (.bool (decide (x170.1 = (((waitsS (⟨t4⟩ : TabS).keys x70).map (·.key)).getD [])))) ∧ r__ 11 = (.int .i64 (b : Int)) ∧ r__ 12 = v108 ∧ r__ 13 = (.int .i64 (k : Int)) ∧ r__ 14 = (.int .i64 (j : Int)) ∧ r__ 21 = (.bool false) ∧ r__ 27 = (.bool (decide ((i : Int) < ((l.length : Nat) : Int)))) ∧ r__ 88 = (.bool (decide ((a : Int) < (((withS x38.own (!true) ow).length : Nat) : Int)))) ∧ r__ 111 = (.bool (decide ((b : Int) < (((withS x38.own (!true) ow).length : Nat) : Int)))) ∧ r__ 123 = (.bool (decide ((k : Int) < (((holdsC (⟨t4⟩ : TabS).keys x106).length : Nat) : Int))))
                refine c_loop I176 _ ⟨0, rfl, hH125, Nat.zero_le _, e115_0, e115_3, e115_4, e115_5, e115_6, e115_7, e115_8, e115_9, rfl, e115_11, e115_12, e115_13, rfl, e115_21, e115_27, e115_88, e115_111, rfl⟩ ?_
                rintro n_ r179 w177 ⟨j, rfl, hH178, hj, e175_0, e175_3, e175_4, e175_5, e175_6, e175_7, e175_8, e175_9, e175_10, e175_11, e175_12, e175_13, e175_14, e175_21, e175_27, e175_88, e175_111, e175_123⟩
                refine wp_seq_k fun K180 hK180 => ?_
                refine wp_seq_k fun K181 hK181 => ?_
                refine c_region ?_
                refine s_op (o_move (v := (.int .i64 (j : Int))) e175_14 ?_)
                refine s_op (o_move (v := v72) e175_7 ?_)
                refine s_op (o_lenS Try.underlying78 rfl ho74.sl ?_)
                refine s_op (o_lss (a := (j : Int)) (b := (((holdsC (⟨t4⟩ : TabS).keys x70).length : Nat) : Int)) rfl rfl ?_)
                refine s_op (o_move (v := (.bool (decide ((j : Int) < (((holdsC (⟨t4⟩ : TabS).keys x70).length : Nat) : Int))))) rfl ?_)
                by_cases h182 : (j : Int) < (((holdsC (⟨t4⟩ : TabS).keys x70).length : Nat) : Int)
                · -- (j : Int) < (((holdsC (⟨t4⟩ : TabS).keys x70).length : Nat) : Int)
                  refine s_on 141 rfl (congrArg Value.bool (decide_eq_true h182)) (o_move (v := (.int .i64 (a : Int))) e175_6 ?_)
                  refine s_on 141 rfl (congrArg Value.bool (decide_eq_true h182)) (o_move (v := (.int .i64 (b : Int))) e175_11 ?_)
                  refine s_on 141 rfl (congrArg Value.bool (decide_eq_true h182)) (o_neq (a := (a : Int)) (b := (b : Int)) rfl rfl ?_)
                  refine s_op (o_pick_t (u := (.bool (decide ((a : Int) ≠ (b : Int))))) ((rfl : _ = _).trans (congrArg Value.bool (decide_eq_true h182))) rfl ?_)
                  refine s_nil ?_
                  refine t_norm (hK181 _ _ ?_)
                  refine c_cond rfl (fun h183 => ?_) (fun h183 => ?_)
                  · -- (a : Int) ≠ (b : Int)
                    refine wp_skip ?_
                    refine t_norm (hK180 _ _ ?_)
                    refine wp_seq_k fun K184 hK184 => ?_
                    refine wp_block ?_
                    refine wp_seq_k fun K185 hK185 => ?_
                    refine Rest.region mixed (by kernel_rfl) ?_
                    have hH186 : Has E { w177 with drawn := w177.drawn + 1 } [s109, [Hp.one b85 (.cells #[(S (((waitsS (⟨t4⟩ : TabS).keys x70).map (·.key)).getD [])), (.bool (((waitsS (⟨t4⟩ : TabS).keys x70).map (·.wr)).getD false))] 74 (0, 0))], s73, s51, sg4, so, R] := Has0.drew hH178 _
                    refine Rest.phaseA (fun w_ => Has E w_ [s109, s73]) 0 10 10 rfl (by decide) (by kernel_rfl) ?_
                    refine a_op 0 rfl (by kernel_rfl) (fun w_ h_ => o_move (v := v72) e175_7 ⟨rfl, rfl⟩) ?_
                    refine a_op 1 rfl (by kernel_rfl) (fun w_ h_ => o_move (v := (.int .i64 (j : Int))) e175_14 ⟨rfl, rfl⟩) ?_
                    obtain ⟨x190, hx191⟩ : ∃ x_, (holdsC (⟨t4⟩ : TabS).keys x70)[((j : Int)).toNat]? = some x_ := get_some (by omega)
                    obtain ⟨b187, o188, hc189, ho192⟩ := ix_exF clC_len Try.underlying78 ti74 ho74.sl (by omega) hx191
                    refine a_op 2 rfl (by kernel_rfl) (fun w_ h_ => ho192 rfl rfl ⟨rfl, rfl⟩) ?_
                    refine a_op 3 rfl (by kernel_rfl) (fun w_ h_ => o_fieldAddr (k := o188) (fun _ => by kernel_rfl) rfl ⟨rfl, rfl⟩) ?_
                    refine a_op 4 rfl (by kernel_rfl) (fun w_ h_ => o_load1 (v := (S x190.1)) Try.underlying9 rfl rfl h_ (seg_sub 1 rfl) (CellsAt.field (k := 0) (ds := [(S x190.1)]) hc189 rfl) ⟨rfl, rfl⟩) ?_
                    refine a_op 5 rfl (by kernel_rfl) (fun w_ h_ => o_move (v := v108) e175_12 ⟨rfl, rfl⟩) ?_
                    refine a_op 6 rfl (by kernel_rfl) (fun w_ h_ => o_move (v := (.int .i64 (k : Int))) e175_13 ⟨rfl, rfl⟩) ?_
                    obtain ⟨b193, o194, hc195, ho196⟩ := ix_exF clC_len Try.underlying78 ti74 ho110.sl (by omega) hx171
                    refine a_op 7 rfl (by kernel_rfl) (fun w_ h_ => ho196 rfl rfl ⟨rfl, rfl⟩) ?_
                    refine a_op 8 rfl (by kernel_rfl) (fun w_ h_ => o_fieldAddr (k := o194) (fun _ => by kernel_rfl) rfl ⟨rfl, rfl⟩) ?_
                    refine a_op 9 rfl (by kernel_rfl) (fun w_ h_ => o_load1 (v := (S x170.1)) Try.underlying9 rfl rfl h_ (seg_sub 0 rfl) (CellsAt.field (k := 0) (ds := [(S x170.1)]) hc195 rfl) ⟨rfl, rfl⟩) ?_
                    have hH197 : Has E { w177 with drawn := w177.drawn + 1 } [s109, s73] := ((hH186.front 2 rfl).front 1 rfl).first 2 rfl
                    refine a_done (by kernel_rfl) hH197 ?_
                    refine r_op 10 rfl (by kernel_rfl) (o_seql (a := x190.1) (b := x170.1) rfl rfl ?_)
                    refine r_op 11 rfl (by kernel_rfl) (o_move (v := (.bool (decide (x190.1 = x170.1)))) rfl ?_)
                    refine Rest.phaseA (fun w_ => Has E w_ []) 12 14 2 rfl (by decide) (by kernel_rfl) ?_
                    by_cases h198 : x190.1 = x170.1
                    · -- x190.1 = x170.1
                      refine a_on 12 rfl (by kernel_rfl) 159 rfl (congrArg Value.bool (decide_eq_true h198)) (fun w_ h_ => o_move (v := v72) e175_7 ⟨rfl, rfl⟩) ?_
                      refine a_on 13 rfl (by kernel_rfl) 159 rfl (congrArg Value.bool (decide_eq_true h198)) (fun w_ h_ => o_move (v := (.int .i64 (j : Int))) e175_14 ⟨rfl, rfl⟩) ?_
                      have hH199 : Has E { w177 with drawn := w177.drawn + 1 } [] := hH186.first 0 rfl
                      refine a_done (by kernel_rfl) hH199 ?_
                      refine r_on 14 rfl (by kernel_rfl) 159 rfl (congrArg Value.bool (decide_eq_true h198)) (o_indexF clC_len Try.underlying78 ti74 rfl ho74.sl rfl rfl (by omega) hx191 fun b200 o201 hc202 => ?_)
                      refine r_on 15 rfl (by kernel_rfl) 159 rfl (congrArg Value.bool (decide_eq_true h198)) (o_fieldAddr (k := o201 + 1) (fun _ => by kernel_rfl) rfl ?_)
                      refine r_on 16 rfl (by kernel_rfl) 159 rfl (congrArg Value.bool (decide_eq_true h198)) (o_load1 (v := (.bool x190.2)) Try.underlying4 rfl rfl hH186 (seg_sub 2 rfl) (CellsAt.field (k := 1) (ds := [(.bool x190.2)]) hc202 rfl) ?_)
                      refine r_on 17 rfl (by kernel_rfl) 159 rfl (congrArg Value.bool (decide_eq_true h198)) (o_move (v := (.bool x190.2)) rfl ?_)
                      refine Rest.phaseA (fun w_ => Has E w_ []) 18 20 2 rfl (by decide) (by kernel_rfl) ?_
                      rcases Bool.eq_false_or_eq_true x190.2 with h203 | h203
                      · -- x190.2
                        exact absurd ((safe1 hwi_ (List.mem_of_getElem? hx191) (List.mem_of_getElem? hx171) (nodup_ne (sorted_nodup hsw_) (show (withS x38.own (!true) ow)[a]? = some _ from hx71) (show (withS x38.own (!true) ow)[b]? = some _ from hx107) (by omega)) h198).1) (by rw [h203]; decide)
                      · -- not: x190.2
                        refine a_on 18 rfl (by kernel_rfl) 165 rfl (congrArg Value.bool h203) (fun w_ h_ => o_move (v := v108) e175_12 ⟨rfl, rfl⟩) ?_
                        refine a_on 19 rfl (by kernel_rfl) 165 rfl (congrArg Value.bool h203) (fun w_ h_ => o_move (v := (.int .i64 (k : Int))) e175_13 ⟨rfl, rfl⟩) ?_
                        have hH204 : Has E { w177 with drawn := w177.drawn + 1 } [] := hH186.first 0 rfl
                        refine a_done (by kernel_rfl) hH204 ?_
                        refine r_on 20 rfl (by kernel_rfl) 165 rfl (congrArg Value.bool h203) (o_indexF clC_len Try.underlying78 ti74 rfl ho110.sl rfl rfl (by omega) hx171 fun b205 o206 hc207 => ?_)
                        refine r_on 21 rfl (by kernel_rfl) 165 rfl (congrArg Value.bool h203) (o_fieldAddr (k := o206 + 1) (fun _ => by kernel_rfl) rfl ?_)
                        refine r_on 22 rfl (by kernel_rfl) 165 rfl (congrArg Value.bool h203) (o_load1 (v := (.bool x170.2)) Try.underlying4 rfl rfl hH186 (seg_sub 0 rfl) (CellsAt.field (k := 1) (ds := [(.bool x170.2)]) hc207 rfl) ?_)
                        refine r_on 23 rfl (by kernel_rfl) 159 rfl (congrArg Value.bool (decide_eq_true h198)) (o_pick_f (u := (.bool x170.2)) ((rfl : _ = _).trans (congrArg Value.bool h203)) rfl ?_)
                        refine r_op 24 rfl (by kernel_rfl) (o_pick_t (u := (.bool x170.2)) ((rfl : _ = _).trans (congrArg Value.bool (decide_eq_true h198))) rfl ?_)
                        refine Rest.done (by kernel_rfl) ?_
                        refine t_norm (hK185 _ _ ?_)
                        refine c_condb rfl (fun h208 => ?_) (fun h208 => ?_)
                        · -- x170.2
                          exact absurd ((safe1 hwi_ (List.mem_of_getElem? hx191) (List.mem_of_getElem? hx171) (nodup_ne (sorted_nodup hsw_) (show (withS x38.own (!true) ow)[a]? = some _ from hx71) (show (withS x38.own (!true) ow)[b]? = some _ from hx107) (by omega)) h198).2) (by rw [h208]; decide)
                        · -- not: x170.2
                          refine wp_skip ?_
                          refine b_norm ?_
                          refine t_norm (hK184 _ _ ?_)
                          refine c_region ?_
                          refine s_op (o_move (v := (.int .i64 (j : Int))) e175_14 ?_)
                          refine s_op (o_add (a := (j : Int)) (b := 1) rfl rfl (w64 (by omega) (by omega)) ?_)
                          refine s_op (o_assign (v := (.int .i64 ((j : Int) + 1))) rfl ?_)
                          refine s_nil ?_
                          refine t_norm ⟨(holdsC (⟨t4⟩ : TabS).keys x70).length - (j + 1), _, rfl, ?_, ?_⟩
                          · omega
                          · exact ⟨(j + 1), rfl, hH186, (by omega), e175_0, e175_3, e175_4, e175_5, e175_6, e175_7, e175_8, e175_9, e175_10, e175_11, e175_12, e175_13, rfl, e175_21, e175_27, e175_88, e175_111, e175_123⟩
                    · -- not: x190.1 = x170.1
                      refine a_off (b' := false) 12 rfl (by kernel_rfl) 159 rfl (congrArg Value.bool (decide_eq_false h198)) rfl ?_
                      refine a_off (b' := false) 13 rfl (by kernel_rfl) 159 rfl (congrArg Value.bool (decide_eq_false h198)) rfl ?_
                      have hH209 : Has E { w177 with drawn := w177.drawn + 1 } [] := hH186.first 0 rfl
                      refine a_done (by kernel_rfl) hH209 ?_
                      refine r_off (b' := false) 14 rfl (by kernel_rfl) 159 rfl (congrArg Value.bool (decide_eq_false h198)) rfl ?_
                      refine r_off (b' := false) 15 rfl (by kernel_rfl) 159 rfl (congrArg Value.bool (decide_eq_false h198)) rfl ?_
                      refine r_off (b' := false) 16 rfl (by kernel_rfl) 159 rfl (congrArg Value.bool (decide_eq_false h198)) rfl ?_
                      refine r_off (b' := false) 17 rfl (by kernel_rfl) 159 rfl (congrArg Value.bool (decide_eq_false h198)) rfl ?_
                      refine Rest.phaseA (fun w_ => Has E w_ []) 18 20 2 rfl (by decide) (by kernel_rfl) ?_
                      refine a_offu 18 rfl (by kernel_rfl) 165 rfl rfl ?_
                      refine a_offu 19 rfl (by kernel_rfl) 165 rfl rfl ?_
                      have hH210 : Has E { w177 with drawn := w177.drawn + 1 } [] := hH186.first 0 rfl
                      refine a_done (by kernel_rfl) hH210 ?_
                      refine r_offu 20 rfl (by kernel_rfl) 165 rfl rfl ?_
                      refine r_offu 21 rfl (by kernel_rfl) 165 rfl rfl ?_
                      refine r_offu 22 rfl (by kernel_rfl) 165 rfl rfl ?_
                      refine r_off (b' := false) 23 rfl (by kernel_rfl) 159 rfl (congrArg Value.bool (decide_eq_false h198)) rfl ?_
                      refine r_op 24 rfl (by kernel_rfl) (o_pick_f (u := (.bool false)) ((rfl : _ = _).trans (congrArg Value.bool (decide_eq_false h198))) rfl ?_)
                      refine Rest.done (by kernel_rfl) ?_
                      refine t_norm (hK185 _ _ ?_)
                      refine c_false rfl rfl ?_
                      refine wp_skip ?_
                      refine b_norm ?_
                      refine t_norm (hK184 _ _ ?_)
                      refine c_region ?_
                      refine s_op (o_move (v := (.int .i64 (j : Int))) e175_14 ?_)
                      refine s_op (o_add (a := (j : Int)) (b := 1) rfl rfl (w64 (by omega) (by omega)) ?_)
                      refine s_op (o_assign (v := (.int .i64 ((j : Int) + 1))) rfl ?_)
                      refine s_nil ?_
                      refine t_norm ⟨(holdsC (⟨t4⟩ : TabS).keys x70).length - (j + 1), _, rfl, ?_, ?_⟩
                      · omega
                      · exact ⟨(j + 1), rfl, hH186, (by omega), e175_0, e175_3, e175_4, e175_5, e175_6, e175_7, e175_8, e175_9, e175_10, e175_11, e175_12, e175_13, rfl, e175_21, e175_27, e175_88, e175_111, e175_123⟩
                  · -- not: (a : Int) ≠ (b : Int)
                    refine wp_exit ?_
                    refine t_exit (t_exit (x_in (?_)))
                    refine b_norm ?_
                    refine t_norm (hK123 _ _ ?_)
                    refine c_region ?_
                    refine s_op (o_move (v := (.int .i64 (k : Int))) e175_13 ?_)
                    refine s_op (o_add (a := (k : Int)) (b := 1) rfl rfl (w64 (by omega) (by omega)) ?_)
                    refine s_op (o_assign (v := (.int .i64 ((k : Int) + 1))) rfl ?_)
                    refine s_nil ?_
                    refine t_norm ⟨(holdsC (⟨t4⟩ : TabS).keys x106).length - (k + 1), _, rfl, ?_, ?_⟩
                    · omega
                    · exact ⟨(k + 1), (decide (x170.1 = (((waitsS (⟨t4⟩ : TabS).keys x70).map (·.key)).getD []))), rfl, hH178, (by omega), (hsm4), e175_0, e175_3, e175_4, e175_5, e175_6, e175_7, e175_8, e175_9, e175_10, e175_11, e175_12, rfl, e175_21, e175_27, e175_88, e175_111⟩
                · -- not: (j : Int) < (((holdsC (⟨t4⟩ : TabS).keys x70).length : Nat) : Int)
                  refine s_off (b' := false) 141 rfl (congrArg Value.bool (decide_eq_false h182)) rfl ?_
                  refine s_off (b' := false) 141 rfl (congrArg Value.bool (decide_eq_false h182)) rfl ?_
                  refine s_off (b' := false) 141 rfl (congrArg Value.bool (decide_eq_false h182)) rfl ?_
                  refine s_op (o_pick_f (u := (.bool false)) ((rfl : _ = _).trans (congrArg Value.bool (decide_eq_false h182))) rfl ?_)
                  refine s_nil ?_
                  refine t_norm (hK181 _ _ ?_)
                  refine c_false rfl rfl ?_
                  refine wp_exit ?_
                  refine t_exit (t_exit (x_in (?_)))
                  refine b_norm ?_
                  refine t_norm (hK123 _ _ ?_)
                  refine c_region ?_
                  refine s_op (o_move (v := (.int .i64 (k : Int))) e175_13 ?_)
                  refine s_op (o_add (a := (k : Int)) (b := 1) rfl rfl (w64 (by omega) (by omega)) ?_)
                  refine s_op (o_assign (v := (.int .i64 ((k : Int) + 1))) rfl ?_)
                  refine s_nil ?_
                  refine t_norm ⟨(holdsC (⟨t4⟩ : TabS).keys x106).length - (k + 1), _, rfl, ?_, ?_⟩
                  · omega
                  · exact ⟨(k + 1), (decide (x170.1 = (((waitsS (⟨t4⟩ : TabS).keys x70).map (·.key)).getD []))), rfl, hH178, (by omega), (hsm4), e175_0, e175_3, e175_4, e175_5, e175_6, e175_7, e175_8, e175_9, e175_10, e175_11, e175_12, rfl, e175_21, e175_27, e175_88, e175_111⟩
            · -- not: (k : Int) < (((holdsC (⟨t4⟩ : TabS).keys x106).length : Nat) : Int)
              refine wp_exit ?_
              refine t_exit (t_exit (x_in (?_)))
              refine b_norm ?_
              refine t_norm (hK101 _ _ ?_)
              refine c_region ?_
              refine s_op (o_move (v := (.int .i64 (b : Int))) e115_11 ?_)
              refine s_op (o_add (a := (b : Int)) (b := 1) rfl rfl (w64 (by omega) (by omega)) ?_)
              refine s_op (o_assign (v := (.int .i64 ((b : Int) + 1))) rfl ?_)
              refine s_nil ?_
              have hH211 : Has E w117 [[Hp.one b85 (.cells #[(S (((waitsS (⟨t4⟩ : TabS).keys x70).map (·.key)).getD [])), (.bool (((waitsS (⟨t4⟩ : TabS).keys x70).map (·.wr)).getD false))] 74 (0, 0))], s73, s51, sg4, so, R] := Has.pick hH118 [1, 1, 1, 1, 1, 1] (by kernel_rfl)
              refine t_norm ⟨(withS x38.own (!true) ow).length - (b + 1), _, rfl, ?_, ?_⟩
              · omega
              · exact ⟨(b + 1), sm3, rfl, hH211, (by omega), (sm_next hsm3 (show k = _ from by omega) (show (withS x38.own (!true) ow)[b]? = some _ from hx107)), e115_0, e115_3, e115_4, e115_5, e115_6, e115_7, e115_8, e115_9, e115_10, rfl, e115_21, e115_27, e115_88⟩
          · -- not: (b : Int) < (((withS x38.own (!true) ow).length : Nat) : Int)
            refine wp_exit ?_
            refine t_exit (t_exit (x_in (?_)))
            refine t_norm (hK91 _ _ ?_)
            refine wp_seq_k fun K212 hK212 => ?_
            refine c_region ?_
            refine s_op (o_move (v := (.bool sm)) e93_10 ?_)
            refine s_op (o_not rfl ?_)
            refine s_nil ?_
            refine t_norm (hK212 _ _ ?_)
            refine c_condb rfl (fun h213 => ?_) (fun h213 => ?_)
            · -- !sm
              have h213_n : sm = false := by simpa using h213
              exact absurd h213 (by rw [safe_end hwi_ hst_ hsm (by omega)]; decide)
            · -- not: !sm
              have h213_n : sm = true := by simpa using h213
              refine wp_skip ?_
              refine b_norm ?_
              refine t_norm (hK65 _ _ ?_)
              refine c_region ?_
              refine s_op (o_move (v := (.int .i64 (a : Int))) e93_6 ?_)
              refine s_op (o_add (a := (a : Int)) (b := 1) rfl rfl (w64 (by omega) (by omega)) ?_)
              refine s_op (o_assign (v := (.int .i64 ((a : Int) + 1))) rfl ?_)
              refine s_nil ?_
              have hH214 : Has E w95 [s51, sg4, so, R] := ((((hH96.front 5 rfl).front 5 rfl).front 5 rfl).front 5 rfl).first 4 rfl
              refine t_norm ⟨(withS x38.own (!true) ow).length - (a + 1), _, rfl, ?_, ?_⟩
              · omega
              · exact ⟨(a + 1), rfl, hH214, (by omega), e93_0, e93_3, e93_4, e93_5, rfl, e93_21, e93_27⟩
        · -- not: (a : Int) < (((withS x38.own (!true) ow).length : Nat) : Int)
          refine wp_exit ?_
          refine t_exit (t_exit (x_in (?_)))
          refine b_norm ?_
          refine t_norm (hK36 _ _ ?_)
          refine c_region ?_
          refine s_op (o_move (v := (.int .i64 (i : Int))) e57_5 ?_)
          refine s_op (o_add (a := (i : Int)) (b := 1) rfl rfl (w64 (by omega) (by omega)) ?_)
          refine s_op (o_assign (v := (.int .i64 ((i : Int) + 1))) rfl ?_)
          refine s_nil ?_
          have hH215 : Has E w59 [s51, sg4, R] := (((hH60.front 3 rfl).front 2 rfl).front 2 rfl).first 3 rfl
          refine t_norm ⟨l.length - (i + 1), _, rfl, ?_, ?_⟩
          · omega
          · exact ⟨(i + 1), t4, sg4, v50, s51, (withS x38.own (!true) ow), rfl, hH215, (by omega), (ht4), ((hb4).mono (by omega)), (hs4), (hd4), (ho52), (hi4), (with_sorted hso), (by have h8_ := (withS_len x38.own ow hso).1; simp only [Bool.not_true]; split at h8_ <;> omega), e57_0, e57_3, e57_4, rfl, e57_21⟩
      refine wp_seq_k fun K216 hK216 => ?_
      refine c_region ?_
      refine s_op (o_move (v := v_l) e27_0 ?_)
      refine s_op (o_move (v := (.int .i64 (i : Int))) e27_5 ?_)
      refine s_op (o_indexF laC_len Try.underlying66 ti71 rfl h_l rfl rfl (by omega) hx39 fun b217 o218 hc219 => ?_)
      refine s_op (o_fieldAddr (k := o218) (fun _ => by kernel_rfl) rfl ?_)
      refine s_op (o_load1 (v := (.int .i64 x38.kind)) Try.underlying3 rfl rfl hH31 (seg_sub 2 rfl) (CellsAt.field (k := 0) (ds := [(.int .i64 x38.kind)]) hc219 rfl) ?_)
      refine s_nil ?_
      refine t_norm (hK216 _ _ ?_)
      refine wp_block ?_
      refine wp_seq_k fun K220 hK220 => ?_
      refine c_region ?_
      refine s_op (o_eql (a := x38.kind) (b := 0) rfl rfl ?_)
      refine s_op (o_assign (v := (.bool (decide (x38.kind = 0)))) rfl ?_)
      refine s_nil ?_
      refine t_norm (hK220 _ _ ?_)
      refine c_cond rfl (fun h221 => ?_) (fun h221 => ?_)
      · -- x38.kind = 0
        obtain ⟨hfa_, hfb_⟩ := hfine.2 _ (List.mem_of_getElem? hx39)
        refine Rest.region mixed (by kernel_rfl) ?_
        have hH222 : Has E { w30 with drawn := w30.drawn + 1 } [so, sg2, R] := Has0.drew hH31 _
        refine Rest.phaseA (fun w_ => Has E w_ [R]) 0 17 17 rfl (by decide) (by kernel_rfl) ?_
        refine a_op 0 rfl (by kernel_rfl) (fun w_ h_ => o_move (v := (.pointer (some ⟨b18, 0, none⟩))) e27_3 ⟨rfl, rfl⟩) ?_
        refine a_op 1 rfl (by kernel_rfl) (fun w_ h_ => o_move (v := v_l) e27_0 ⟨rfl, rfl⟩) ?_
        refine a_op 2 rfl (by kernel_rfl) (fun w_ h_ => o_move (v := (.int .i64 (i : Int))) e27_5 ⟨rfl, rfl⟩) ?_
        obtain ⟨b223, o224, hc225, ho226⟩ := ix_exF laC_len Try.underlying66 ti71 h_l (by omega) hx39
        refine a_op 3 rfl (by kernel_rfl) (fun w_ h_ => ho226 rfl rfl ⟨rfl, rfl⟩) ?_
        refine a_op 4 rfl (by kernel_rfl) (fun w_ h_ => o_fieldAddr (k := o224 + 1) (fun _ => by kernel_rfl) rfl ⟨rfl, rfl⟩) ?_
        refine a_op 5 rfl (by kernel_rfl) (fun w_ h_ => o_load1 (v := (.int .i64 x38.own)) Try.underlying3 rfl rfl h_ (seg_sub 0 rfl) (CellsAt.field (k := 1) (ds := [(.int .i64 x38.own)]) hc225 rfl) ⟨rfl, rfl⟩) ?_
        refine a_op 6 rfl (by kernel_rfl) (fun w_ h_ => o_move (v := v_l) e27_0 ⟨rfl, rfl⟩) ?_
        refine a_op 7 rfl (by kernel_rfl) (fun w_ h_ => o_move (v := (.int .i64 (i : Int))) e27_5 ⟨rfl, rfl⟩) ?_
        obtain ⟨b227, o228, hc229, ho230⟩ := ix_exF laC_len Try.underlying66 ti71 h_l (by omega) hx39
        refine a_op 8 rfl (by kernel_rfl) (fun w_ h_ => ho230 rfl rfl ⟨rfl, rfl⟩) ?_
        refine a_op 9 rfl (by kernel_rfl) (fun w_ h_ => o_fieldAddr (k := o228 + 2) (fun _ => by kernel_rfl) rfl ⟨rfl, rfl⟩) ?_
        refine a_op 10 rfl (by kernel_rfl) (fun w_ h_ => o_load1 (v := (S x38.key)) Try.underlying9 rfl rfl h_ (seg_sub 0 rfl) (CellsAt.field (k := 2) (ds := [(S x38.key)]) hc229 rfl) ⟨rfl, rfl⟩) ?_
        refine a_op 11 rfl (by kernel_rfl) (fun w_ h_ => o_move (v := v_l) e27_0 ⟨rfl, rfl⟩) ?_
        refine a_op 12 rfl (by kernel_rfl) (fun w_ h_ => o_move (v := (.int .i64 (i : Int))) e27_5 ⟨rfl, rfl⟩) ?_
        obtain ⟨b231, o232, hc233, ho234⟩ := ix_exF laC_len Try.underlying66 ti71 h_l (by omega) hx39
        refine a_op 13 rfl (by kernel_rfl) (fun w_ h_ => ho234 rfl rfl ⟨rfl, rfl⟩) ?_
        refine a_op 14 rfl (by kernel_rfl) (fun w_ h_ => o_fieldAddr (k := o232 + 3) (fun _ => by kernel_rfl) rfl ⟨rfl, rfl⟩) ?_
        refine a_op 15 rfl (by kernel_rfl) (fun w_ h_ => o_load1 (v := (.bool x38.wr)) Try.underlying4 rfl rfl h_ (seg_sub 0 rfl) (CellsAt.field (k := 3) (ds := [(.bool x38.wr)]) hc233 rfl) ⟨rfl, rfl⟩) ?_
        refine a_op 16 rfl (by kernel_rfl) (fun w_ h_ => o_sight (v := (.agg #[(S x38.key), (.bool x38.wr)])) (fun _ => by kernel_rfl) ⟨rfl, rfl⟩) ?_
        have hH235 : Has E { w30 with drawn := w30.drawn + 1 } [R] := (hH222.front 2 rfl).first 1 rfl
        refine a_done (by kernel_rfl) hH235 ?_
        refine r_op 17 rfl (by kernel_rfl) (o_callf (vs := #[(.pointer (some ⟨b18, 0, none⟩)), (.int .i64 x38.own), (.agg #[(S x38.key), (.bool x38.wr)])]) ca39 rfl (args3 rfl rfl rfl) (ask_c (v := (⟨t2⟩ : TabS)) (o := x38.own) (k := x38.key) (wr := x38.wr) (hH222.front 1 rfl).all1 ht2 (hb2.hkl) (hb2.hkn (by omega)) (hb2.sz (by omega))) ?_)
        rintro _ w240 ⟨sg236, rfl, hd237, hX238⟩
        refine ⟨_, rfl, ?_⟩
        have hH239 : Has E w240 [sg236, so, R] := hX238.of_all1
        have hb241 := hb2.ask (o := x38.own) (k := x38.key) (wr := x38.wr) (hfine.2 _ (List.mem_of_getElem? hx39)).1
        have hs242 := hs2.ask (o := x38.own) (k := x38.key) (wr := x38.wr)
        have hd243 := ask_nodup (o := x38.own) (k := x38.key) (wr := x38.wr) hd2
        have hi244 := (hi2.mono (ow' := (withS x38.own (!true) ow)) (fun z_ hz_ => with_mem.2 (by rw [if_pos rfl]; exact .inr hz_))).ask (o := x38.own) (k := x38.key) (wr := x38.wr) (with_mem.2 (by rw [if_pos rfl]; exact .inl rfl))
        refine Rest.done (by kernel_rfl) ?_
        refine b_norm ?_
        refine t_norm (hJ42 _ _ ⟨((askS (⟨t2⟩ : TabS).keys x38.own x38.key x38.wr).1), sg236, hH239, (hd237), ((hb241).mono (by omega)), (hs242), (hd243), (hi244), e27_0, e27_3, e27_4, e27_5, e27_21, rfl⟩)
      · -- not: x38.kind = 0
        obtain ⟨hfa_, hfb_⟩ := hfine.2 _ (List.mem_of_getElem? hx39)
        refine wp_seq_k fun K245 hK245 => ?_
        refine c_region ?_
        refine s_op (o_eql (a := x38.kind) (b := 1) rfl rfl ?_)
        refine s_op (o_assign (v := (.bool (decide (x38.kind = 1)))) rfl ?_)
        refine s_nil ?_
        refine t_norm (hK245 _ _ ?_)
        refine c_cond rfl (fun h246 => ?_) (fun h246 => ?_)
        · -- x38.kind = 1
          refine c_region ?_
          refine s_op (o_move (v := (.pointer (some ⟨b18, 0, none⟩))) e27_3 ?_)
          refine s_op (o_move (v := v_l) e27_0 ?_)
          refine s_op (o_move (v := (.int .i64 (i : Int))) e27_5 ?_)
          refine s_op (o_indexF laC_len Try.underlying66 ti71 rfl h_l rfl rfl (by omega) hx39 fun b247 o248 hc249 => ?_)
          refine s_op (o_fieldAddr (k := o248 + 1) (fun _ => by kernel_rfl) rfl ?_)
          refine s_op (o_load1 (v := (.int .i64 x38.own)) Try.underlying3 rfl rfl hH31 (seg_sub 2 rfl) (CellsAt.field (k := 1) (ds := [(.int .i64 x38.own)]) hc249 rfl) ?_)
          refine s_op (o_callf (vs := #[(.pointer (some ⟨b18, 0, none⟩)), (.int .i64 x38.own)]) ca40 rfl (args2 rfl rfl) (quit_c (v := (⟨t2⟩ : TabS)) (o := x38.own) (hH31.front 1 rfl).all1 ht2 (hb2.hkl) (hb2.hkn (by omega)) (hb2.sz (by omega))) ?_)
          rintro _ w257 ⟨v250, s251, sg253, rfl, ho252, hd254, hX255⟩
          refine ⟨_, rfl, ?_⟩
          have hH256 : Has E w257 [s251, sg253, so, R] := hX255.of_all2
          have hb258 := hb2.leave hd2 (all := false) (ow := [x38.own])
          have hs259 := hs2.leave hd2 (all := false) (ow := [x38.own])
          have hd260 := leave_nodup hd2 (all := false) (ow := [x38.own])
          have hi261 := (hi2.mono (ow' := (withS x38.own (!true) ow)) (fun z_ hz_ => with_mem.2 (by rw [if_pos rfl]; exact .inr hz_))).leave hd2 (all := false) (fr := [x38.own])
          refine s_nil ?_
          refine b_norm ?_
          have hH262 : Has E w257 [sg253, so, R] := (((hH256.front 3 rfl).front 3 rfl).front 3 rfl).first 3 rfl
          refine t_norm (hJ42 _ _ ⟨((leaveS false [x38.own] (⟨t2⟩ : TabS).keys).1), sg253, hH262, (hd254), ((hb258).mono (by omega)), (hs259), (hd260), (hi261), e27_0, e27_3, e27_4, e27_5, e27_21, rfl⟩)
        · -- not: x38.kind = 1
          refine Rest.region mixed (by kernel_rfl) ?_
          have hH263 : Has E { w30 with drawn := w30.drawn + 1 } [so, sg2, R] := Has0.drew hH31 _
          refine Rest.phaseA (fun w_ => Has E w_ [R]) 0 13 13 rfl (by decide) (by kernel_rfl) ?_
          refine a_op 0 rfl (by kernel_rfl) (fun w_ h_ => o_move (v := (.pointer (some ⟨b18, 0, none⟩))) e27_3 ⟨rfl, rfl⟩) ?_
          refine a_op 1 rfl (by kernel_rfl) (fun w_ h_ => o_move (v := v_l) e27_0 ⟨rfl, rfl⟩) ?_
          refine a_op 2 rfl (by kernel_rfl) (fun w_ h_ => o_move (v := (.int .i64 (i : Int))) e27_5 ⟨rfl, rfl⟩) ?_
          obtain ⟨b264, o265, hc266, ho267⟩ := ix_exF laC_len Try.underlying66 ti71 h_l (by omega) hx39
          refine a_op 3 rfl (by kernel_rfl) (fun w_ h_ => ho267 rfl rfl ⟨rfl, rfl⟩) ?_
          refine a_op 4 rfl (by kernel_rfl) (fun w_ h_ => o_fieldAddr (k := o265 + 1) (fun _ => by kernel_rfl) rfl ⟨rfl, rfl⟩) ?_
          refine a_op 5 rfl (by kernel_rfl) (fun w_ h_ => o_load1 (v := (.int .i64 x38.own)) Try.underlying3 rfl rfl h_ (seg_sub 0 rfl) (CellsAt.field (k := 1) (ds := [(.int .i64 x38.own)]) hc266 rfl) ⟨rfl, rfl⟩) ?_
          refine a_op 7 rfl (by kernel_rfl) (fun w_ h_ => o_move (v := v_l) e27_0 ⟨rfl, rfl⟩) ?_
          refine a_op 8 rfl (by kernel_rfl) (fun w_ h_ => o_move (v := (.int .i64 (i : Int))) e27_5 ⟨rfl, rfl⟩) ?_
          obtain ⟨b268, o269, hc270, ho271⟩ := ix_exF laC_len Try.underlying66 ti71 h_l (by omega) hx39
          refine a_op 9 rfl (by kernel_rfl) (fun w_ h_ => ho271 rfl rfl ⟨rfl, rfl⟩) ?_
          refine a_op 10 rfl (by kernel_rfl) (fun w_ h_ => o_fieldAddr (k := o269 + 4) (fun _ => by kernel_rfl) rfl ⟨rfl, rfl⟩) ?_
          refine a_op 11 rfl (by kernel_rfl) (fun w_ h_ => o_load1 (v := x38.mv) Try.underlying54 rfl rfl h_ (seg_sub 0 rfl) (CellsAt.field (k := 4) (ds := [x38.mv]) hc270 rfl) ⟨rfl, rfl⟩) ?_
          have hH272 : Has E { w30 with drawn := w30.drawn + 1 } [R] := (hH263.front 2 rfl).first 1 rfl
          refine a_w 6 rfl (by kernel_rfl) hH272 (o_buildSlice (ps := #[(0, (.int .i64 x38.own))]) (cells := #[(.int .i64 x38.own)]) Try.underlying54 ti3 (by decide) (parts1 rfl) (by kernel_rfl) hH263 fun b273 w274 hH275 => ?_)
          have hH276 : Has E w274 [R] := (hH275.front 3 rfl).first 1 rfl
          have ho277 : Own 3 1 (.slice (some ⟨b273, 0, none⟩) 1 1) [x38.own].length ([x38.own].map iV) [Hp.one b273 (.cells #[(.int .i64 x38.own)] 3 (0, 0))] := Own.lit (e := 3) (sz := 1) (n := 1) (b := b273) (cur := #[(.int .i64 x38.own)]) rfl (by decide)
          refine a_w 12 rfl (by kernel_rfl) hH276 (o_append Try.underlying54 ti3 rfl (by decide) rfl ho277 rfl (hok _ (List.mem_of_getElem? hx39)) (hH275.front 0 rfl) (seg_sub 2 rfl) (one_iV _) (by simp; omega) (by simp; omega) fun v278 s279 w281 ho280 hH282 => ?_)
          have ho280 : Own 3 1 v278 ([x38.own] ++ x38.more).length (([x38.own] ++ x38.more).map iV) s279 := ho280.app
          have hH283 : Has E w281 [R] := (hH282.front 3 rfl).first 1 rfl
          refine a_done (by kernel_rfl) hH283 ?_
          refine r_op 13 rfl (by kernel_rfl) (o_callf (vs := #[(.pointer (some ⟨b18, 0, none⟩)), v278]) ca41 rfl (args2 rfl rfl) (free_t (v := (⟨t2⟩ : TabS)) (ow := [x38.own] ++ x38.more) (hH282.front 2 rfl).all1 ht2 (ho280.sl.mono (seg_sub 0 rfl)) (hb2.hkl) (hb2.hkn (by omega)) (hb2.sz (by omega))) ?_)
          rintro _ w291 ⟨v284, s285, sg287, rfl, ho286, hd288, hX289⟩
          refine ⟨_, rfl, ?_⟩
          have hH290 : Has E w291 [s285, sg287, s279, so, R] := hX289.of_all2
          have hb292 := hb2.leave hd2 (all := true) (ow := [x38.own] ++ x38.more)
          have hs293 := hs2.leave hd2 (all := true) (ow := [x38.own] ++ x38.more)
          have hd294 := leave_nodup hd2 (all := true) (ow := [x38.own] ++ x38.more)
          have hi295 := (hi2.mono (ow' := (withS x38.own (!true) ow)) (fun z_ hz_ => with_mem.2 (by rw [if_pos rfl]; exact .inr hz_))).leave hd2 (all := true) (fr := [x38.own] ++ x38.more)
          refine Rest.done (by kernel_rfl) ?_
          refine b_norm ?_
          have hH296 : Has E w291 [sg287, so, R] := (((hH290.front 4 rfl).front 4 rfl).front 3 rfl).first 3 rfl
          refine t_norm (hJ42 _ _ ⟨((leaveS true ([x38.own] ++ x38.more) (⟨t2⟩ : TabS).keys).1), sg287, hH296, (hd288), ((hb292).mono (by omega)), (hs293), (hd294), (hi295), e27_0, e27_3, e27_4, e27_5, e27_21, rfl⟩)
    · -- not: (i : Int) < ((l.length : Nat) : Int)
      refine wp_exit ?_
      refine t_exit (t_exit (x_in (?_)))
      refine t_norm (hK25 _ _ ?_)
      refine wp_seq_k fun K297 hK297 => ?_
      refine wp_seq_k fun K298 hK298 => ?_
      refine c_region ?_
      refine s_op (o_assign (v := (.int .i64 0)) rfl ?_)
      refine s_nil ?_
      refine t_norm (hK298 _ _ ?_)
      refine wp_block ?_
      let I300 : Nat → (Nat → Value) → World → Prop := fun n__ r__ w__ => ∃ (i2 : Nat) (t3 : Tab) (sg3 : List Hp), n__ = ow.length - i2 ∧ Has E w__ [sg3, so, R] ∧ (i2 ≤ ow.length) ∧ (TbAt b18 sg3 (⟨t3⟩ : TabS)) ∧ (LkB t3 60) ∧ (LkS t3) ∧ ((t3.map (·.1)).Nodup) ∧ (LkI t3 ow) ∧ (Freed t3 (ow.take i2)) ∧ r__ 0 = v_l ∧ r__ 3 = (.pointer (some ⟨b18, 0, none⟩)) ∧ r__ 4 = vo ∧ r__ 5 = (.int .i64 (i : Int)) ∧ r__ 15 = (.int .i64 (i2 : Int)) ∧ r__ 21 = (.bool false) ∧ r__ 27 = (.bool (decide ((i : Int) < ((l.length : Nat) : Int))))
      have hH301 : Has E w30 [sg2, so, R] := (((hH31.front 2 rfl).front 1 rfl).front 2 rfl).first 3 rfl
      refine c_loop I300 _ ⟨0, t2, sg2, rfl, hH301, Nat.zero_le _, ht2, hb2.mono (by omega), hs2, hd2, hi2, (fun p _ q _ g_ => by cases g_), e27_0, e27_3, e27_4, e27_5, rfl, e27_21, rfl⟩ ?_
      rintro n_ r304 w302 ⟨i2, t3, sg3, rfl, hH303, hi2, ht3, hb3, hs3, hd3, hi3, hf3, e299_0, e299_3, e299_4, e299_5, e299_15, e299_21, e299_27⟩
      refine wp_seq_k fun K305 hK305 => ?_
      refine wp_seq_k fun K306 hK306 => ?_
      refine c_region ?_
      refine s_op (o_move (v := (.int .i64 (i2 : Int))) e299_15 ?_)
      refine s_op (o_move (v := vo) e299_4 ?_)
      refine s_op (o_lenS Try.underlying54 rfl hoo.sl ?_)
      refine s_op (o_lss (a := (i2 : Int)) (b := ((ow.length : Nat) : Int)) rfl rfl ?_)
      refine s_nil ?_
      refine t_norm (hK306 _ _ ?_)
      refine c_cond rfl (fun h307 => ?_) (fun h307 => ?_)
      · -- (i2 : Int) < ((ow.length : Nat) : Int)
        refine wp_skip ?_
        refine t_norm (hK305 _ _ ?_)
        refine wp_seq_k fun K308 hK308 => ?_
        refine wp_block ?_
        refine c_region ?_
        refine s_op (o_move (v := (.pointer (some ⟨b18, 0, none⟩))) e299_3 ?_)
        refine s_op (o_move (v := vo) e299_4 ?_)
        refine s_op (o_move (v := (.int .i64 (i2 : Int))) e299_15 ?_)
        obtain ⟨x312, hx313⟩ : ∃ x_, ow[((i2 : Int)).toNat]? = some x_ := get_some (by omega)
        refine s_op (o_index1 Try.underlying54 ti3 rfl hoo.sl rfl (by omega) hx313 fun b309 o310 hc311 => ?_)
        refine s_op (o_load1 (v := (.int .i64 x312)) Try.underlying3 rfl rfl hH303 (seg_sub 1 rfl) hc311 ?_)
        refine s_op (o_buildSlice (ps := #[(0, (.int .i64 x312))]) (cells := #[(.int .i64 x312)]) Try.underlying54 ti3 (by decide) (parts1 rfl) (by kernel_rfl) hH303 fun b314 w315 hH316 => ?_)
        refine s_op (o_callf (vs := #[(.pointer (some ⟨b18, 0, none⟩)), (.slice (some ⟨b314, 0, none⟩) 1 1)]) ca41 rfl (args2 rfl rfl) (free_t (v := (⟨t3⟩ : TabS)) (ow := [x312]) (hH316.front 1 rfl).all1 ht3 ((sl_lit (f := iV) (l := [x312]) rfl rfl (by simp)).mono (seg_sub 0 rfl)) (hb3.hkl) (hb3.hkn (by omega)) (hb3.sz (by omega))) ?_)
        rintro _ w324 ⟨v317, s318, sg320, rfl, ho319, hd321, hX322⟩
        refine ⟨_, rfl, ?_⟩
        have hH323 : Has E w324 [s318, sg320, [Hp.one b314 (.cells #[(.int .i64 x312)] 3 (0, 0))], so, R] := hX322.of_all2
        have hb325 := hb3.leave hd3 (all := true) (ow := [x312])
        have hs326 := hs3.leave hd3 (all := true) (ow := [x312])
        have hd327 := leave_nodup hd3 (all := true) (ow := [x312])
        have hi328 := hi3.leave hd3 (all := true) (fr := [x312])
        refine s_nil ?_
        refine b_norm ?_
        refine t_norm (hK308 _ _ ?_)
        refine c_region ?_
        refine s_op (o_move (v := (.int .i64 (i2 : Int))) e299_15 ?_)
        refine s_op (o_add (a := (i2 : Int)) (b := 1) rfl rfl (w64 (by omega) (by omega)) ?_)
        refine s_op (o_assign (v := (.int .i64 ((i2 : Int) + 1))) rfl ?_)
        refine s_nil ?_
        have hH329 : Has E w324 [sg320, so, R] := (((hH323.front 4 rfl).front 4 rfl).front 3 rfl).first 3 rfl
        refine t_norm ⟨ow.length - (i2 + 1), _, rfl, ?_, ?_⟩
        · omega
        · exact ⟨(i2 + 1), ((leaveS true [x312] (⟨t3⟩ : TabS).keys).1), sg320, rfl, hH329, (by omega), (hd321), ((hb325).mono (by omega)), (hs326), (hd327), (hi328), (by rw [take_succ_of (show ow[i2]? = some _ from hx313)]; exact hf3.leave hd3), e299_0, e299_3, e299_4, e299_5, rfl, e299_21, e299_27⟩
      · -- not: (i2 : Int) < ((ow.length : Nat) : Int)
        refine wp_exit ?_
        refine t_exit (t_exit (x_in (?_)))
        refine t_norm (hK297 _ _ ?_)
        refine wp_seq_k fun K330 hK330 => ?_
        refine c_region ?_
        refine s_op (o_move (v := (.pointer (some ⟨b18, 0, none⟩))) e299_3 ?_)
        refine s_op (o_callf (vs := #[(.pointer (some ⟨b18, 0, none⟩))]) ca45 rfl (args1 rfl) (edges_c (v := (⟨t3⟩ : TabS)) hH303.all (ht3.rd.mono (seg_sub 0 rfl)) (hb3.hkl) (hb3.hkn (by omega)) (hb3.sz (by omega))) ?_)
        rintro _ w336 ⟨v331, s332, rfl, ho333, hX334⟩
        refine ⟨_, rfl, ?_⟩
        have hH335 : Has E w336 [s332, sg3, so, R] := hX334.of_all1
        refine s_op (o_lenS Try.underlying82 rfl ho333.sl ?_)
        refine s_op (o_eql (a := (((edgesS (⟨t3⟩ : TabS).keys).length : Nat) : Int)) (b := 0) rfl rfl ?_)
        refine s_op (o_assign (v := (.bool (decide ((((edgesS (⟨t3⟩ : TabS).keys).length : Nat) : Int) = 0)))) rfl ?_)
        refine s_nil ?_
        refine t_norm (hK330 _ _ ?_)
        refine wp_ret ?_
        refine c_ret1 Try.results7  (v := (.bool (decide ((((edgesS (⟨t3⟩ : TabS).keys).length : Nat) : Int) = 0)))) rfl ?_
        have hH337 : Has E w336 [R] := (hH335.front 3 rfl).first 1 rfl
        have hz_ : t3 = [] := freed_nil (by (have h8_ : i2 = ow.length := by omega); rw [h8_, List.take_length] at hf3; exact hf3) hi3 hs3
        exact ⟨by subst hz_; simp [edges_nil], hH337⟩
end Go.Q
namespace Go.Q
section
variable {H : Type} {enc : TypeId × Value → H} {P : Program} {w : World} {t e : TypeId} {cs : List Value}
/-- These cells read as a value of the type. -/
def Rd (enc : TypeId × Value → H) (P : Program) (w : World) (t : TypeId) (cs : List Value) : Prop := ∃ fuel x, DataW.trod enc P w 0 (fun _ => true) true fuel t cs = some x
theorem rd_of {v : Value} {d : DataW H} {ps : List MemPlace} (h : DataW.Trod enc P w 0 (fun _ => true) true t v d ps) : Rd enc P w t v.cells.toList := ⟨h.choose, _, h.choose_spec⟩
theorem rd_int {k : IntKind} (ht : P.underlying t = some (.int k)) (h : Rd enc P w t cs) : ∃ n, cs = [.int k n] ∧ (Lit.int k n).wf = true := by
  obtain ⟨f, x, h⟩ := h
  obtain ⟨n, h1, _, h2⟩ := DataW.trod_int ht h
  exact ⟨n, h1, h2⟩
theorem rd_i64 (ht : P.underlying t = some (.int .i64)) (h : Rd enc P w t cs) : ∃ n, cs = [iV n] ∧ (-9223372036854775808 : Int) ≤ n ∧ n ≤ 9223372036854775807 := by
  obtain ⟨n, h1, h2⟩ := rd_int ht h
  exact ⟨n, h1, wf_i64 h2⟩
theorem rd_string (ht : P.underlying t = some .string) (h : Rd enc P w t cs) : ∃ l : List UInt8, cs = [S l] ∧ l.length ≤ 9223372036854775807 := by
  obtain ⟨f, x, h⟩ := h
  obtain ⟨s, h1, _, h2⟩ := DataW.trod_string ht h
  exact ⟨s.data.toList, by rw [h1, S_of], by rw [show maxLen = 9223372036854775807 from rfl] at h2; exact h2⟩
theorem rd_bool (ht : P.underlying t = some .bool) (h : Rd enc P w t cs) : ∃ b, cs = [.bool b] := by
  obtain ⟨f, x, h⟩ := h
  cases f with
  | zero => simp [DataW.trod] at h
  | succ m =>
    unfold DataW.trod at h
    rw [ht] at h
    split at h <;> simp_all
theorem rd_struct {fs : Array Field} (ht : P.underlying t = some (.struct fs)) (h : Rd enc P w t cs) :
    cs.length = P.cellsOf t ∧ ∀ (i : Nat) (f : Field), fs[i]? = some f → Rd enc P w f.type ((cs.drop f.offset).take (P.cellsOf f.type)) := by
  obtain ⟨f, x, h⟩ := h
  obtain ⟨xs, n, _, _, h1, h2, h3⟩ := DataW.trod_struct ht h
  refine ⟨h1, fun i f hf => ?_⟩
  have hi : i < xs.length := by rw [h2]; exact (Array.getElem?_eq_some_iff.1 hf).1
  exact ⟨n, xs[i], by rw [h3 i f hf, List.getElem?_eq_getElem hi]⟩
theorem rd_field {fs : Array Field} {i k : Nat} {f : Field} {T : TypeId} {ds : List Value} (hf : ∀ (i : Nat) (f : Field), fs[i]? = some f → Rd enc P w f.type ((cs.drop f.offset).take (P.cellsOf f.type)))
    (h : fs[i]? = some f) (hT : f.type = T) (hc : P.cellsOf T = k) (hd : (cs.drop f.offset).take k = ds) : Rd enc P w T ds := by
  have g := hf i f h
  rw [hT, hc, hd] at g
  exact g
theorem rd_slice (ht : P.underlying t = some (.slice e)) (h : Rd enc P w t cs) :
    cs = [.slice none 0 0] ∨ ∃ a len cap, cs = [.slice (some a) len cap] ∧ len ≤ cap ∧ cap ≤ 9223372036854775807 ∧
      ∀ i, i < len → ∃ r : List Value, r.length = P.cellsOf e ∧ Rd enc P w e r ∧ ∀ j, j < P.cellsOf e → w.cell? (a.add (i * P.cellsOf e + j)) = r[j]? := by
  obtain ⟨f, x, h⟩ := h
  rcases DataW.trod_slice ht h with ⟨h, _⟩ | ⟨a, len, cap, elems, rest, n, _, h1, _, _, h2, h3, h4, h5, _⟩
  · exact .inl h
  · refine .inr ⟨a, len, cap, h1, h2, by simpa [maxLen] using h3, fun i hi => ?_⟩
    have hb := h5 i hi
    rw [List.getElem?_eq_getElem (by omega)] at hb
    obtain ⟨r, hr, hd⟩ := Option.bind_eq_some_iff.1 hb
    obtain ⟨_, g1, g2⟩ := World.cells?_some hr
    refine ⟨r, g1, ⟨n, _, hd⟩, fun j hj => ?_⟩
    rw [← g2 j hj, Addr.add_add]
/-- A row, by how its elements read. -/
theorem rd_rows {α : Type} {f : α → List Value} {Good : α → Prop} {sz : Nat} (ht : P.underlying t = some (.slice e)) (hc : P.cellsOf e = sz) (h0 : 0 < sz) (hf : ∀ a, (f a).length = sz)
    (each : ∀ r, Rd enc P w e r → ∃ a, r = f a ∧ Good a) (h : Rd enc P w t cs) : ∃ (v : Value) (l : List α), cs = [v] ∧ Sl [Hp.of w] sz v l.length (l.flatMap f) ∧ ∀ a ∈ l, Good a := by
  subst hc
  rcases rd_slice ht h with rfl | ⟨a, len, cap, rfl, h1, h2, h3⟩
  · exact ⟨_, [], rfl, ⟨none, 0, rfl, Nat.le_refl _, by omega, by simp, fun g => by simp at g⟩, fun a ha => by cases ha⟩
  · have key : ∀ k, k ≤ len → ∃ l : List α, l.length = k ∧ (∀ a ∈ l, Good a) ∧ ∀ i v, (l.flatMap f)[i]? = some v → w.cell? (a.add i) = some v := by
      intro k
      induction k with
      | zero => intro _; exact ⟨[], rfl, fun a ha => (by cases ha), fun i v hv => by simp at hv⟩
      | succ k ih =>
        intro hk
        obtain ⟨l, hl, hg, hcell⟩ := ih (by omega)
        obtain ⟨r, hr, hd, hrc⟩ := h3 k (by omega)
        obtain ⟨y, rfl, hy⟩ := each r hd
        refine ⟨l ++ [y], by simp [hl], fun a ha => ?_, fun i v hv => ?_⟩
        · rcases List.mem_append.1 ha with g | g
          · exact hg a g
          · rw [List.mem_singleton.1 g]; exact hy
        · rw [List.flatMap_append, List.flatMap_cons, List.flatMap_nil, List.append_nil] at hv
          have hlen := flat_len hf l
          rcases Nat.lt_or_ge i (l.flatMap f).length with g | g
          · rw [List.getElem?_append_left g] at hv; exact hcell i v hv
          · rw [List.getElem?_append_right g] at hv
            have hj : i - (l.flatMap f).length < P.cellsOf e := by rw [← hr]; exact (List.getElem?_eq_some_iff.1 hv).1
            have := hrc (i - (l.flatMap f).length) hj
            rw [hv] at this
            rw [← this]; congr 2
            rw [hlen, hl] at g hj ⊢; omega
    obtain ⟨l, hl, hg, hcell⟩ := key len (Nat.le_refl _)
    refine ⟨_, l, rfl, ⟨some a, cap, by rw [hl], by omega, h2, flat_len hf l, fun g => ?_⟩, hg⟩
    obtain ⟨b, off, rfl, hc⟩ := cells_row (w := w) (x := a) (vs := l.flatMap f) (by rw [flat_len hf l]; exact Nat.mul_pos g h0) hcell
    exact ⟨b, off, rfl, hc⟩
theorem flat_one {α : Type} (f : α → Value) : ∀ l : List α, l.flatMap (fun a => [f a]) = l.map f
  | [] => rfl
  | a :: l => by rw [List.flatMap_cons, flat_one f l]; rfl
theorem rd_row1 {α : Type} {f : α → Value} {Good : α → Prop} (ht : P.underlying t = some (.slice e)) (hc : P.cellsOf e = 1)
    (each : ∀ r, Rd enc P w e r → ∃ a, r = [f a] ∧ Good a) (h : Rd enc P w t cs) : ∃ (v : Value) (l : List α), cs = [v] ∧ Sl [Hp.of w] 1 v l.length (l.map f) ∧ ∀ a ∈ l, Good a := by
  obtain ⟨v, l, h1, h2, h3⟩ := rd_rows (f := fun a => [f a]) ht hc (by omega) (fun _ => rfl) each h
  exact ⟨v, l, h1, by rw [flat_one] at h2; exact h2, h3⟩
/-- bounds of an int -/
def I64 (n : Int) : Prop := -9223372036854775808 ≤ n ∧ n ≤ 9223372036854775807
theorem rd_ints (ht : P.underlying t = some (.slice e)) (he : P.underlying e = some (.int .i64)) (hc : P.cellsOf e = 1) (h : Rd enc P w t cs) : ∃ (v : Value) (l : List Int), cs = [v] ∧ Ints [Hp.of w] v l ∧ ∀ a ∈ l, I64 a :=
  rd_row1 ht hc (fun r hr => rd_i64 he hr) h
theorem rd_strings (ht : P.underlying t = some (.slice e)) (he : P.underlying e = some .string) (hc : P.cellsOf e = 1) (h : Rd enc P w t cs) : ∃ (v : Value) (l : List (List UInt8)), cs = [v] ∧ Sl [Hp.of w] 1 v l.length (l.map S) ∧ ∀ a ∈ l, a.length ≤ 9223372036854775807 :=
  rd_row1 ht hc (fun r hr => rd_string he hr) h
/-- a value of a type of one cell is its cell -/
theorem val_one {r : Reach} {b0 : Nat} {v u : Value} (hn : match P.underlying t with | some (.struct _) => False | some (.array _ _) => False | _ => True) (hval : Value.okWide P w r b0 t v) (h : v.cells.toList = [u]) : v = u := by
  cases v with
  | agg c =>
    unfold Value.okWide at hval
    cases hu : P.underlying t with
    | none => rw [hu] at hval; simp [Cell.okWide, Cell.ok, hu] at hval
    | some d => rw [hu] at hn hval; cases d <;> first | exact hn.elim | (simp [Cell.okWide, Cell.ok, hu] at hval)
  | _ => simpa [Value.cells] using h
end
end Go.Q
namespace Go.Q
open Go.Proofs
set_option linter.unusedVariables false
set_option maxRecDepth 100000
attribute [local irreducible] wpList OK Code.wp
theorem rd_lact {H : Type} {enc : TypeId × Value → H} {w : World} {cs : List Value} (h : Rd enc Try.prog w 71 cs) : ∃ a : LAct, cs = laC a ∧ LaOk [Hp.of w] a := by
  obtain ⟨hl, hf⟩ := rd_struct Try.underlying71 h
  have hl : cs.length = 5 := hl.trans (by kernel_rfl)
  obtain ⟨c0, c1, c2, c3, c4, rfl⟩ : ∃ c0 c1 c2 c3 c4, cs = [c0, c1, c2, c3, c4] := by
    match cs, hl with
    | [c0, c1, c2, c3, c4], _ => exact ⟨c0, c1, c2, c3, c4, rfl⟩
  have f0 : Rd enc Try.prog w 3 [c0] := rd_field (i := 0) (k := 1) hf rfl rfl (by kernel_rfl) rfl
  obtain ⟨n0, e0, b0⟩ := rd_i64 Try.underlying3 f0
  obtain rfl := (List.cons.inj e0).1
  have f1 : Rd enc Try.prog w 3 [c1] := rd_field (i := 1) (k := 1) hf rfl rfl (by kernel_rfl) rfl
  obtain ⟨n1, e1, b1⟩ := rd_i64 Try.underlying3 f1
  obtain rfl := (List.cons.inj e1).1
  have f2 : Rd enc Try.prog w 9 [c2] := rd_field (i := 2) (k := 1) hf rfl rfl (by kernel_rfl) rfl
  obtain ⟨n2, e2, b2⟩ := rd_string Try.underlying9 f2
  obtain rfl := (List.cons.inj e2).1
  have f3 : Rd enc Try.prog w 4 [c3] := rd_field (i := 3) (k := 1) hf rfl rfl (by kernel_rfl) rfl
  obtain ⟨n3, e3⟩ := rd_bool Try.underlying4 f3
  obtain rfl := (List.cons.inj e3).1
  have f4 : Rd enc Try.prog w 54 [c4] := rd_field (i := 4) (k := 1) hf rfl rfl (by kernel_rfl) rfl
  obtain ⟨u4, n4, e4, s4, b4⟩ := rd_ints Try.underlying54 Try.underlying3 (by kernel_rfl) f4
  obtain rfl := (List.cons.inj e4).1
  exact ⟨⟨n0, n1, n2, n3, _, n4⟩, rfl, s4⟩
theorem rd_lacts {H : Type} {enc : TypeId × Value → H} {w : World} {cs : List Value} (h : Rd enc Try.prog w 66 cs) : ∃ (v : Value) (l : List LAct), cs = [v] ∧ Sl [Hp.of w] 5 v l.length (l.flatMap laC) ∧ ∀ a ∈ l, LaOk [Hp.of w] a :=
  rd_rows Try.underlying66 (by kernel_rfl) (by decide) laC_len (fun r hr => rd_lact hr) h
end Go.Q
