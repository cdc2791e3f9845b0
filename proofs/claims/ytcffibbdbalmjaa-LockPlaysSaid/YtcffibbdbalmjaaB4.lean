/-
  Parts of a walk: what functions of the program compute, each told by a theorem (QELk11, QSlh, QELk12, QLockL, QELk13, QEq, QEEq, QLockR, QERf1, QERf2).
-/
import Derived.Test.YtcffibbdbalmjaaB3
import Derived.Laws.StructEq
set_option linter.unusedVariables false
set_option linter.unusedSimpArgs false
namespace Go.Q
open Go.Proofs
set_option linter.unusedVariables false
set_option maxRecDepth 100000
attribute [local irreducible] wpList OK Code.wp
set_option maxHeartbeats 4000000 in
theorem pgrow_c {E w : World} {R : List Hp}  {n : Int}  (hH : Has E w [R]) (hn : 0 ≤ n ∧ n ≤ 1000000) :
    Calls Try.prog 135 #[(.slice none 0 0), (.int .i64 n)] w fun e w' => ∃ (v1' : Value) (s2' : List Hp), e = .returned v1' ∧ (Own 170 3 v1' ([] : List Plc).length (([] : List Plc).flatMap plC) s2') ∧ Has E w' [s2', R] := by
  obtain ⟨hn1_, hn2_⟩ := hn
  refine c_enter (args := [(.slice none 0 0), (.int .i64 n)]) Try.func135 rfl Try.ntmps135 (by simp) ?_
  refine wp_seq_k fun K1 hK1 => ?_
  refine c_region ?_
  refine s_op (o_assign (v := (.slice none 0 0)) rfl ?_)
  refine s_nil ?_
  refine t_norm (hK1 _ _ ?_)
  refine wp_seq_k fun K2 hK2 => ?_
  refine wp_seq_k fun K3 hK3 => ?_
  refine c_region ?_
  refine s_op (o_move (v := (.int .i64 n)) rfl ?_)
  refine s_op (o_lss (a := n) (b := 0) rfl rfl ?_)
  refine s_nil ?_
  refine t_norm (hK3 _ _ ?_)
  refine c_cond rfl (fun h4 => ?_) (fun h4 => ?_)
  · -- n < 0
    exfalso; omega
  · -- not: n < 0
    refine wp_skip ?_
    refine t_norm (hK2 _ _ ?_)
    refine wp_seq_k fun K5 hK5 => ?_
    refine wp_seq_k fun K6 hK6 => ?_
    refine c_region ?_
    refine s_op (o_move (v := (.int .i64 n)) rfl ?_)
    refine s_op (o_move (v := (.slice none 0 0)) rfl ?_)
    refine s_op (o_cap Try.underlying166 rfl ?_)
    refine s_op (o_move (v := (.slice none 0 0)) rfl ?_)
    refine s_op (o_lenS Try.underlying166 rfl (sl_nil (L := []) 1) ?_)
    refine s_op (o_sub (a := ((0 : Nat) : Int)) (b := ((0 : Nat) : Int)) rfl rfl (w64 (by omega) (by omega)) ?_)
    refine s_op (o_sub (a := n) (b := ((0 : Nat) : Int) - ((0 : Nat) : Int)) rfl rfl (w64 (by omega) (by omega)) ?_)
    refine s_op (o_assign (v := (.int .i64 (n - (((0 : Nat) : Int) - ((0 : Nat) : Int))))) rfl ?_)
    refine s_nil ?_
    refine t_norm (hK6 _ _ ?_)
    refine wp_seq_k fun K7 hK7 => ?_
    refine c_region ?_
    refine s_op (o_move (v := (.int .i64 (n - (((0 : Nat) : Int) - ((0 : Nat) : Int))))) rfl ?_)
    refine s_op (o_gtr (a := n - (((0 : Nat) : Int) - ((0 : Nat) : Int))) (b := 0) rfl rfl ?_)
    refine s_nil ?_
    refine t_norm (hK7 _ _ ?_)
    refine c_cond rfl (fun h8 => ?_) (fun h8 => ?_)
    · -- 0 < n - (((0 : Nat) : Int) - ((0 : Nat) : Int))
      refine c_region ?_
      refine s_op (o_move (v := (.slice none 0 0)) rfl ?_)
      refine s_op (o_move (v := (.slice none 0 0)) rfl ?_)
      refine s_op (o_cap Try.underlying166 rfl ?_)
      refine s_op (o_slnil Try.underlying166 ti170 rfl rfl (by omega) ?_)
      refine s_op (o_move (v := (.int .i64 (n - (((0 : Nat) : Int) - ((0 : Nat) : Int))))) rfl ?_)
      refine s_op (o_appmake (m := (n - (((0 : Nat) : Int) - ((0 : Nat) : Int))).toNat) (cs := []) Try.underlying166 Try.underlying3 ti170 rfl (by decide) rfl (sl_nil 3) rfl (by omega) hH (List.nil_subset _) (by omega) (by omega) (by omega) fun b18 c19 p20 w21 hs23 hr24 hm25 ht26 hH22 => ?_)
      refine s_op (o_move (v := (.slice none 0 0)) rfl ?_)
      refine s_op (o_lenS Try.underlying166 rfl (sl_nil (L := []) 1) ?_)
      obtain ⟨o27, n28, c29, ho33, hn30, hc31, hq32⟩ := rsl_ex4 0 3 (i := 0) (j := ((0 : Nat) : Int)) (m := ((p20 : Nat) : Int)) (by omega) (by omega) (by omega)
      refine s_op (o_rsl2 (i := 0) (j := ((0 : Nat) : Int)) (m := ((p20 : Nat) : Int)) Try.underlying166 ti170 rfl (bounds_h (n := (0 + (n - (((0 : Nat) : Int) - ((0 : Nat) : Int))).toNat)) (cap := p20) (j := ((0 : Nat) : Int)) (by omega) (by omega)) (by omega) (by omega) (by omega) ho33 hn30 hc31 ?_)
      refine s_op (o_assign (v := (.slice (some ⟨b18, o27, none⟩) n28 c29)) rfl ?_)
      refine s_nil ?_
      refine t_norm (hK5 _ _ ?_)
      refine wp_seq_k fun K34 hK34 => ?_
      refine c_region ?_
      refine s_op (o_move (v := (.slice (some ⟨b18, o27, none⟩) n28 c29)) rfl ?_)
      refine s_op (o_assign (v := (.slice (some ⟨b18, o27, none⟩) n28 c29)) rfl ?_)
      refine s_nil ?_
      refine t_norm (hK34 _ _ ?_)
      refine wp_ret ?_
      refine c_ret1 Try.results135  (v := (.slice (some ⟨b18, o27, none⟩) n28 c29)) rfl ?_
      refine ⟨_, _, rfl, ⟨rfl, .inr ⟨b18, c29, c19, by rw [show n28 = 0 from by omega, show (o27 : Nat) = 0 from by omega]; rfl, rfl, by simp, by simp only [maxLen]; omega, ?_, by simp⟩⟩, hH22⟩
      · rw [hs23]; congr 1; omega
    · -- not: 0 < n - (((0 : Nat) : Int) - ((0 : Nat) : Int))
      refine wp_skip ?_
      refine t_norm (hK5 _ _ ?_)
      refine wp_seq_k fun K35 hK35 => ?_
      refine c_region ?_
      refine s_op (o_move (v := (.slice none 0 0)) rfl ?_)
      refine s_op (o_assign (v := (.slice none 0 0)) rfl ?_)
      refine s_nil ?_
      refine t_norm (hK35 _ _ ?_)
      refine wp_ret ?_
      refine c_ret1 Try.results135  (v := (.slice none 0 0)) rfl ?_
      exact ⟨_, _, rfl, Own.nil 170 3, Has.nil hH⟩
set_option maxHeartbeats 4000000 in
theorem pconcat_c {E w : World} {R : List Hp} {v_ls : Value} {ls : List (Value × List Plc)}  (hH : Has E w [R]) (h_ls : Sl R 1 v_ls ls.length (ls.map rwV)) (hq : ∀ q ∈ ls, Sl R 3 (rwV q) q.2.length (q.2.flatMap plC)) (hn : (ls.flatMap (fun q_ : Value × List Plc => q_.2)).length ≤ 1000000) :
    Calls Try.prog 96 #[v_ls] w fun e w' => ∃ (v1' : Value) (s2' : List Hp), e = .returned v1' ∧ (Own 170 3 v1' (ls.flatMap (fun q_ : Value × List Plc => q_.2)).length ((ls.flatMap (fun q_ : Value × List Plc => q_.2)).flatMap plC) s2') ∧ Has E w' [s2', R] := by
  refine c_enter (args := [v_ls]) Try.func96 rfl Try.ntmps96 (by simp) ?_
  refine wp_seq_k fun K1 hK1 => ?_
  refine c_region ?_
  refine s_op (o_assign (v := (.slice none 0 0)) rfl ?_)
  refine s_nil ?_
  refine t_norm (hK1 _ _ ?_)
  refine wp_seq_k fun K2 hK2 => ?_
  refine c_region ?_
  refine s_op (o_assign (v := (.int .i64 0)) rfl ?_)
  refine s_nil ?_
  refine t_norm (hK2 _ _ ?_)
  refine wp_seq_k fun K3 hK3 => ?_
  refine wp_seq_k fun K4 hK4 => ?_
  refine c_region ?_
  refine s_op (o_move (v := v_ls) rfl ?_)
  refine s_op (o_lenS Try.underlying217 rfl h_ls ?_)
  refine s_op (o_move (v := (.int .i64 0)) rfl ?_)
  refine s_nil ?_
  refine t_norm (hK4 _ _ ?_)
  refine wp_block ?_
  let I6 : Nat → (Nat → Value) → World → Prop := fun n__ r__ w__ => ∃ (k : Nat) (sm : Int), n__ = ls.length - k ∧ Has E w__ [R] ∧ (k ≤ ls.length) ∧ (sm = (((ls.take k).flatMap (fun q_ : Value × List Plc => q_.2)).length : Int)) ∧ r__ 0 = v_ls ∧ r__ 2 = (.slice none 0 0) ∧ r__ 3 = (.int .i64 sm) ∧ r__ 9 = v_ls ∧ r__ 10 = (.int .i64 ((ls.length : Nat) : Int)) ∧ r__ 11 = (.int .i64 (k : Int))
  refine c_loop I6 _ ⟨0, 0, rfl, hH, Nat.zero_le _, rfl, rfl, rfl, rfl, rfl, rfl, rfl⟩ ?_
  rintro n_ r9 w7 ⟨k, sm, rfl, hH8, hk, hsm, e5_0, e5_2, e5_3, e5_9, e5_10, e5_11⟩
  have ht_ := flat_take_len (fun q_ : Value × List Plc => q_.2) ls k
  have hv_ := h_ls.le
  refine wp_seq_k fun K10 hK10 => ?_
  refine c_region ?_
  refine s_op (o_lss (a := (k : Int)) (b := ((ls.length : Nat) : Int)) e5_11 e5_10 ?_)
  refine s_nil ?_
  refine t_norm (hK10 _ _ ?_)
  refine wp_seq_k fun K11 hK11 => ?_
  refine c_cond rfl (fun h12 => ?_) (fun h12 => ?_)
  · -- (k : Int) < ((ls.length : Nat) : Int)
    refine wp_skip ?_
    refine t_norm (hK11 _ _ ?_)
    refine wp_seq_k fun K13 hK13 => ?_
    refine wp_block ?_
    refine wp_seq_k fun K14 hK14 => ?_
    refine c_region ?_
    obtain ⟨x18, hx19⟩ : ∃ x_, ls[((k : Int)).toNat]? = some x_ := get_some (by omega)
    refine s_op (o_index1 Try.underlying217 ti166 e5_9 h_ls e5_11 (by omega) hx19 fun b15 o16 hc17 => ?_)
    refine s_op (o_load1 (v := (rwV x18)) Try.underlying166 rfl rfl hH8 (seg_sub 0 rfl) hc17 ?_)
    refine s_op (o_assign (v := (rwV x18)) rfl ?_)
    refine s_nil ?_
    refine t_norm (hK14 _ _ ?_)
    refine wp_seq_k fun K20 hK20 => ?_
    refine c_region ?_
    refine s_op (o_move (v := (.int .i64 sm)) e5_3 ?_)
    refine s_op (o_move (v := (rwV x18)) rfl ?_)
    refine s_op (o_lenS Try.underlying166 rfl (hq _ (List.mem_of_getElem? hx19)) ?_)
    have hr_ := cc_room (out := (ls.take k).flatMap (fun q_ : Value × List Plc => q_.2)) rfl (show ls[k]? = some _ from hx19) hn
    refine s_op (o_add (a := sm) (b := ((x18.2.length : Nat) : Int)) rfl rfl (w64 (by omega) (by omega)) ?_)
    refine s_op (o_assign (v := (.int .i64 (sm + ((x18.2.length : Nat) : Int)))) rfl ?_)
    refine s_nil ?_
    refine t_norm (hK20 _ _ ?_)
    refine wp_seq_k fun K21 hK21 => ?_
    refine c_region ?_
    refine s_op (o_move (v := (.int .i64 (sm + ((x18.2.length : Nat) : Int)))) rfl ?_)
    refine s_op (o_lss (a := sm + ((x18.2.length : Nat) : Int)) (b := 0) rfl rfl ?_)
    refine s_nil ?_
    refine t_norm (hK21 _ _ ?_)
    refine c_cond rfl (fun h22 => ?_) (fun h22 => ?_)
    · -- sm + ((x18.2.length : Nat) : Int) < 0
      exfalso; omega
    · -- not: sm + ((x18.2.length : Nat) : Int) < 0
      refine wp_skip ?_
      refine b_norm ?_
      refine t_norm (hK13 _ _ ?_)
      refine c_region ?_
      refine s_op (o_add (a := (k : Int)) (b := 1) e5_11 rfl (w64 (by omega) (by omega)) ?_)
      refine s_op (o_move (v := (.int .i64 ((k : Int) + 1))) rfl ?_)
      refine s_nil ?_
      refine t_norm ⟨ls.length - (k + 1), _, rfl, ?_, ?_⟩
      · omega
      · exact ⟨(k + 1), (sm + ((x18.2.length : Nat) : Int)), rfl, hH8, (by omega), (by rw [take_succ_of (show ls[k]? = some _ from hx19), List.flatMap_append, List.length_append, hsm]; simp), e5_0, e5_2, rfl, e5_9, e5_10, rfl⟩
  · -- not: (k : Int) < ((ls.length : Nat) : Int)
    refine wp_exit ?_
    refine t_exit (t_exit (x_in (?_)))
    refine t_norm (hK3 _ _ ?_)
    refine wp_seq_k fun K23 hK23 => ?_
    refine c_region ?_
    refine s_op (o_move (v := (.int .i64 sm)) e5_3 ?_)
    refine s_op (o_callf (vs := #[(.slice none 0 0), (.int .i64 sm)]) ca135 rfl (args2 rfl rfl) (pgrow_c (n := sm) hH8.all (by first | omega | (simp only []; omega) | (simp; done) | (simp; omega))) ?_)
    rintro _ w29 ⟨v24, s25, rfl, ho26, hX27⟩
    refine ⟨_, rfl, ?_⟩
    have hH28 : Has E w29 [s25, R] := hX27.of_all1
    refine s_op (o_assign (v := v24) rfl ?_)
    refine s_nil ?_
    refine t_norm (hK23 _ _ ?_)
    refine wp_seq_k fun K30 hK30 => ?_
    refine wp_seq_k fun K31 hK31 => ?_
    refine c_region ?_
    refine s_op (o_move (v := v_ls) e5_0 ?_)
    refine s_op (o_lenS Try.underlying217 rfl h_ls ?_)
    refine s_op (o_move (v := (.int .i64 0)) rfl ?_)
    refine s_nil ?_
    refine t_norm (hK31 _ _ ?_)
    refine wp_block ?_
    let I33 : Nat → (Nat → Value) → World → Prop := fun n__ r__ w__ => ∃ (k2 : Nat) (vo : Value) (so : List Hp) (out : List Plc), n__ = ls.length - k2 ∧ Has E w__ [so, R] ∧ (k2 ≤ ls.length) ∧ (Own 170 3 vo out.length (out.flatMap plC) so) ∧ (out = (ls.take k2).flatMap (fun q_ : Value × List Plc => q_.2)) ∧ r__ 0 = v_ls ∧ r__ 2 = (.slice none 0 0) ∧ r__ 3 = (.int .i64 sm) ∧ r__ 6 = vo ∧ r__ 9 = v_ls ∧ r__ 10 = (.int .i64 ((ls.length : Nat) : Int)) ∧ r__ 11 = (.int .i64 (k : Int)) ∧ r__ 12 = (.bool (decide ((k : Int) < ((ls.length : Nat) : Int)))) ∧ r__ 25 = v_ls ∧ r__ 26 = (.int .i64 ((ls.length : Nat) : Int)) ∧ r__ 27 = (.int .i64 (k2 : Int))
    refine c_loop I33 _ ⟨0, v24, s25, ([] : List Plc), rfl, hH28, Nat.zero_le _, ho26, rfl, e5_0, e5_2, e5_3, rfl, e5_9, e5_10, e5_11, rfl, rfl, rfl, rfl⟩ ?_
    rintro n_ r36 w34 ⟨k2, vo, so, out, rfl, hH35, hk2, hoo, hf, e32_0, e32_2, e32_3, e32_6, e32_9, e32_10, e32_11, e32_12, e32_25, e32_26, e32_27⟩
    have ht_ := flat_take_len (fun q_ : Value × List Plc => q_.2) ls k2
    rw [← hf] at ht_
    have hv_ := h_ls.le
    refine wp_seq_k fun K37 hK37 => ?_
    refine c_region ?_
    refine s_op (o_lss (a := (k2 : Int)) (b := ((ls.length : Nat) : Int)) e32_27 e32_26 ?_)
    refine s_nil ?_
    refine t_norm (hK37 _ _ ?_)
    refine wp_seq_k fun K38 hK38 => ?_
    refine c_cond rfl (fun h39 => ?_) (fun h39 => ?_)
    · -- (k2 : Int) < ((ls.length : Nat) : Int)
      refine wp_skip ?_
      refine t_norm (hK38 _ _ ?_)
      refine wp_seq_k fun K40 hK40 => ?_
      refine wp_block ?_
      refine wp_seq_k fun K41 hK41 => ?_
      refine c_region ?_
      obtain ⟨x45, hx46⟩ : ∃ x_, ls[((k2 : Int)).toNat]? = some x_ := get_some (by omega)
      refine s_op (o_index1 Try.underlying217 ti166 e32_25 h_ls e32_27 (by omega) hx46 fun b42 o43 hc44 => ?_)
      refine s_op (o_load1 (v := (rwV x45)) Try.underlying166 rfl rfl hH35 (seg_sub 1 rfl) hc44 ?_)
      refine s_op (o_assign (v := (rwV x45)) rfl ?_)
      refine s_nil ?_
      refine t_norm (hK41 _ _ ?_)
      refine c_region ?_
      refine s_op (o_move (v := vo) e32_6 ?_)
      refine s_op (o_move (v := (rwV x45)) rfl ?_)
      have hr_ : out.length + x45.2.length ≤ 1000000 := cc_room hf (show ls[k2]? = some _ from hx46) hn
      refine s_op (o_append Try.underlying166 ti170 rfl (by decide) rfl hoo rfl (hq _ (List.mem_of_getElem? hx46)) (hH35.front 0 rfl) (seg_sub 0 rfl) (one_plC _) (by omega) (by omega) fun v47 s48 w50 ho49 hH51 => ?_)
      have ho49 : Own 170 3 v47 (out ++ x45.2).length ((out ++ x45.2).flatMap plC) s48 := ho49.appF
      refine s_op (o_assign (v := v47) rfl ?_)
      refine s_nil ?_
      refine b_norm ?_
      refine t_norm (hK40 _ _ ?_)
      refine c_region ?_
      refine s_op (o_add (a := (k2 : Int)) (b := 1) e32_27 rfl (w64 (by omega) (by omega)) ?_)
      refine s_op (o_move (v := (.int .i64 ((k2 : Int) + 1))) rfl ?_)
      refine s_nil ?_
      refine t_norm ⟨ls.length - (k2 + 1), _, rfl, ?_, ?_⟩
      · omega
      · exact ⟨(k2 + 1), v47, s48, (out ++ x45.2), rfl, hH51, (by omega), (ho49), (by rw [take_succ_of (show ls[k2]? = some _ from hx46), List.flatMap_append, ← hf]; simp), e32_0, e32_2, e32_3, rfl, e32_9, e32_10, e32_11, e32_12, e32_25, e32_26, rfl⟩
    · -- not: (k2 : Int) < ((ls.length : Nat) : Int)
      refine wp_exit ?_
      refine t_exit (t_exit (x_in (?_)))
      refine t_norm (hK30 _ _ ?_)
      refine wp_seq_k fun K52 hK52 => ?_
      refine c_region ?_
      refine s_op (o_move (v := vo) e32_6 ?_)
      refine s_op (o_assign (v := vo) rfl ?_)
      refine s_nil ?_
      refine t_norm (hK52 _ _ ?_)
      refine wp_ret ?_
      refine c_ret1 Try.results96  (v := vo) rfl ?_
      have q53 : (ls.flatMap (fun q_ : Value × List Plc => q_.2)) = out := by (have he_ : k2 = ls.length := by omega); rw [hf, he_, List.take_length]
      exact ⟨_, _, rfl, (by rw [q53]; exact hoo), hH35⟩
end Go.Q
namespace Go.Q
/-- the slice of the first j elements -/
def headV : Value → Nat → Nat → Value
  | .slice p _ c, j, sz => sliced p 0 j c sz
  | v, _, _ => v
theorem sl_head {L : List Hp} {sz n : Nat} {v : Value} {cs : List Value} (hs : Sl L sz v n cs) {j : Nat} (hj : j ≤ n) : Sl L sz (headV v j sz) j (cs.take (j * sz)) := by
  obtain ⟨p, cap, rfl⟩ := hs.form
  obtain ⟨p', cap', e2, hnc, hcm, hl, hp⟩ := hs
  cases e2
  have hle : j * sz ≤ n * sz := Nat.mul_le_mul_right _ hj
  unfold headV sliced
  refine ⟨_, _, rfl, by omega, by omega, ?_, fun h => ?_⟩
  · rw [List.length_take, hl]; omega
  · obtain ⟨b, off, rfl, hc⟩ := hp (by omega)
    refine ⟨b, off, ?_, hc.take⟩
    split <;> simp [add_lit]
theorem flatMap_take {α β : Type} (f : α → List β) (n : Nat) (hf : ∀ x, (f x).length = n) : ∀ (l : List α) (j : Nat), (l.flatMap f).take (j * n) = (l.take j).flatMap f
  | [], j => by simp
  | x :: l, 0 => by simp
  | x :: l, j + 1 => by
    rw [List.flatMap_cons, List.take_succ_cons, List.flatMap_cons, ← flatMap_take f n hf l j, List.take_append, hf, List.take_of_length_le (by rw [hf, Nat.add_mul]; omega), show (j + 1) * n - n = j * n by rw [Nat.add_mul]; omega]
theorem sl_headf {α : Type} {f : α → List Value} {sz : Nat} (hf : ∀ x, (f x).length = sz) {L : List Hp} {v : Value} {l : List α} (hs : Sl L sz v l.length (l.flatMap f)) {j : Nat} (hj : j ≤ l.length) : Sl L sz (headV v j sz) (l.take j).length ((l.take j).flatMap f) := by
  have h := sl_head hs hj
  rw [flatMap_take f sz hf] at h
  rw [List.length_take, Nat.min_eq_left hj]; exact h
section ops
variable {P : Program} {ρ : Operand → Value} {E w : World} {ss : List (List Hp)} {K : Value → World → Prop} {dst : Option Tmp} {T : TypeId} {pos : String} {after : Array Edge} {g : Option (Nat × Bool)}
/-- s[:j] of a row that is read -/
theorem o_slh {x y : Operand} {t e : TypeId} {zz : Value} {v : Value} {sz by_ n : Nat} {cs : List Value} {L : List Hp} {k : IntKind} {j : Int} (ht : P.underlying t = some (.slice e)) (hi : TI P e zz sz by_)
    (hx : ρ x = v) (hs : Sl L sz v n cs) (hy : ρ y = .int k j) (h0 : 0 ≤ j) (h1 : j ≤ n)
    (hK : K (headV v j.toNat sz) w) : OK P ⟨dst, .slice t x none (some y) none, T, pos, after, g⟩ ρ w K := by
  have e1 : P.elem t = e := by simp [Program.elem, ht]
  obtain ⟨p, cap, rfl⟩ := hs.form
  obtain ⟨p', cap', e2, hnc, hcm, hl, hp⟩ := hs
  cases e2
  have hrun : (Instr.sliceAt t (ρ x) ((none : Option Operand).map ρ) ((some y).map ρ) ((none : Option Operand).map ρ)).run P w = .ok (sliced p 0 j.toNat cap sz) w := by
    simp only [hx, hy, Option.map_some, Option.map_none]
    rw [run_sliceAt_slice _ _ _ _ _ _ (by rw [e1]; exact ht), run_slice_any _ _ _ _ _ (by rw [e1]; exact ht), bounds_h h0 (by omega), e1]
    simp only [Result.andThen_ok, hi.size, Int.toNat_natCast]; rfl
  exact OK.val (run_v hrun) hK
end ops
end Go.Q
namespace Go.Q
open Go.Proofs
set_option linter.unusedVariables false
set_option maxRecDepth 100000
attribute [local irreducible] wpList OK Code.wp
set_option maxHeartbeats 4000000 in
theorem edges_c {E w : World} {R : List Hp} {tb : Nat} {v : TabS}  (hH : Has E w [R]) (h_tb : TbRd R tb v) (hkl : ∀ p_ ∈ v.keys, p_.1.length ≤ 1000) (hkn : v.keys.length ≤ 1000) (hsz : szT v.keys) :
    Calls Try.prog 45 #[(.pointer (some ⟨tb, 0, none⟩))] w fun e w' => ∃ (v1' : Value) (s2' : List Hp), e = .returned v1' ∧ (Own 95 2 v1' (edgesS v.keys).length ((edgesS v.keys).flatMap tmC) s2') ∧ Has E w' [s2', R] := by
  have hks_ := names_len v.keys
  obtain ⟨x1, hc3, f2⟩ := h_tb
  refine c_enter (args := [(.pointer (some ⟨tb, 0, none⟩))]) Try.func45 rfl Try.ntmps45 (by simp) ?_
  refine wp_seq_k fun K4 hK4 => ?_
  refine c_region ?_
  refine s_op (o_assign (v := (.slice none 0 0)) rfl ?_)
  refine s_nil ?_
  refine t_norm (hK4 _ _ ?_)
  refine wp_seq_k fun K5 hK5 => ?_
  refine c_region ?_
  refine s_op (o_assign (v := (.slice none 0 0)) rfl ?_)
  refine s_nil ?_
  refine t_norm (hK5 _ _ ?_)
  refine wp_seq_k fun K6 hK6 => ?_
  refine wp_seq_k fun K7 hK7 => ?_
  refine c_region ?_
  refine s_op (o_move (v := (.pointer (some ⟨tb, 0, none⟩))) rfl ?_)
  refine s_op (o_callf (vs := #[(.pointer (some ⟨tb, 0, none⟩))]) ca95 rfl (args1 rfl) (names_c (v := v) hH.all ((TbRd.mk hc3 f2).mono (seg_sub 0 rfl)) (by first | omega | (simp only []; omega) | (simp; done) | (simp; omega)) (by first | omega | (simp only []; omega) | (simp; done) | (simp; omega))) ?_)
  rintro _ w13 ⟨v8, s9, rfl, ho10, hX11⟩
  refine ⟨_, rfl, ?_⟩
  have hH12 : Has E w13 [s9, R] := hX11.of_all1
  refine s_op (o_lenS Try.underlying53 rfl ho10.sl ?_)
  refine s_op (o_move (v := (.int .i64 0)) rfl ?_)
  refine s_nil ?_
  refine t_norm (hK7 _ _ ?_)
  refine wp_block ?_
  let I15 : Nat → (Nat → Value) → World → Prop := fun n__ r__ w__ => ∃ (k : Nat) (va : Value) (sa : List Hp) (oa : List (Int × Int)), n__ = (namesS v.keys).length - k ∧ Has E w__ [sa, s9, R] ∧ (k ≤ (namesS v.keys).length) ∧ (oa.length ≤ k * 1000000) ∧ (Own 95 2 va oa.length (oa.flatMap tmC) sa) ∧ (oa = (((namesS v.keys).take k).flatMap (edgK v.keys))) ∧ r__ 0 = (.pointer (some ⟨tb, 0, none⟩)) ∧ r__ 2 = (.slice none 0 0) ∧ r__ 3 = va ∧ r__ 12 = v8 ∧ r__ 13 = (.int .i64 (((namesS v.keys).length : Nat) : Int)) ∧ r__ 14 = (.int .i64 (k : Int))
  have hH16 : Has E w13 [[], s9, R] := (Has.nil ((hH12.front 1 rfl).front 1 rfl)).first 3 rfl
  refine c_loop I15 _ ⟨0, (.slice none 0 0), [], [], rfl, hH16, Nat.zero_le _, Nat.zero_le _, Own.nil 95 2, rfl, rfl, rfl, rfl, rfl, rfl, rfl⟩ ?_
  rintro n_ r19 w17 ⟨k, va, sa, oa, rfl, hH18, hk, hla, hoa, hfa, e14_0, e14_2, e14_3, e14_12, e14_13, e14_14⟩
  refine wp_seq_k fun K20 hK20 => ?_
  refine c_region ?_
  refine s_op (o_lss (a := (k : Int)) (b := (((namesS v.keys).length : Nat) : Int)) e14_14 e14_13 ?_)
  refine s_nil ?_
  refine t_norm (hK20 _ _ ?_)
  refine wp_seq_k fun K21 hK21 => ?_
  refine c_cond rfl (fun h22 => ?_) (fun h22 => ?_)
  · -- (k : Int) < (((namesS v.keys).length : Nat) : Int)
    refine wp_skip ?_
    refine t_norm (hK21 _ _ ?_)
    refine wp_seq_k fun K23 hK23 => ?_
    refine wp_block ?_
    refine wp_seq_k fun K24 hK24 => ?_
    refine c_region ?_
    obtain ⟨x28, hx29⟩ : ∃ x_, (namesS v.keys)[((k : Int)).toNat]? = some x_ := get_some (by omega)
    refine s_op (o_index1 Try.underlying53 ti9 e14_12 ho10.sl e14_14 (by omega) hx29 fun b25 o26 hc27 => ?_)
    refine s_op (o_load1 (v := (S x28)) Try.underlying9 rfl rfl hH18 (seg_sub 1 rfl) hc27 ?_)
    refine s_op (o_assign (v := (S x28)) rfl ?_)
    refine s_nil ?_
    refine t_norm (hK24 _ _ ?_)
    refine wp_seq_k fun K30 hK30 => ?_
    refine c_region ?_
    refine s_op (o_move (v := (.pointer (some ⟨tb, 0, none⟩))) e14_0 ?_)
    refine s_op (o_nilCheck rfl ?_)
    refine s_op (o_fieldAddr (k := 0) (fun _ => by kernel_rfl) rfl ?_)
    refine s_op (o_load1 (v := (.map (some x1))) Try.underlying162 rfl rfl hH18 (seg_sub 2 rfl) (CellsAt.field (k := 0) (ds := [(.map (some x1))]) hc3 rfl) ?_)
    refine s_op (o_move (v := (S x28)) rfl ?_)
    refine s_op (o_dirRd (k := x28) Try.underlying162 (key_string Try.underlying9) ti165 rfl rfl f2 hH18 (seg_sub 2 rfl) (fun hN31 => ?_) (fun b33 v34 hS32 hr35 => ?_))
    · -- none
      exact (names_get (show (namesS v.keys)[_]? = some x28 from hx29) hN31).elim
    · -- some
      obtain ⟨x36, x37, hc40, f38, f39⟩ := hr35
      have f38_n := f38.le
      have f39_n := f39.le
      refine s_op (o_assign (v := (.pointer (some ⟨b33, 0, none⟩))) rfl ?_)
      refine s_nil ?_
      refine t_norm (hK30 _ _ ?_)
      refine wp_seq_k fun K41 hK41 => ?_
      refine c_region ?_
      refine s_op (o_move (v := (.pointer (some ⟨b33, 0, none⟩))) rfl ?_)
      refine s_op (o_nilCheck rfl ?_)
      refine s_op (o_fieldAddr (k := 1) (fun _ => by kernel_rfl) rfl ?_)
      refine s_op (o_load1 (v := x37) Try.underlying166 rfl rfl hH18 (seg_sub 2 rfl) (CellsAt.field (k := 1) (ds := [x37]) hc40 rfl) ?_)
      refine s_op (o_lenS Try.underlying166 rfl f39 ?_)
      refine s_op (o_move (v := (.int .i64 0)) rfl ?_)
      refine s_nil ?_
      refine t_norm (hK41 _ _ ?_)
      refine wp_block ?_
      let I43 : Nat → (Nat → Value) → World → Prop := fun n__ r__ w__ => ∃ (i : Nat) (vb : Value) (sb : List Hp) (ob : List (Int × Int)), n__ = v34.line.length - i ∧ Has E w__ [sb, s9, R] ∧ (i ≤ v34.line.length) ∧ (Own 95 2 vb ob.length (ob.flatMap tmC) sb) ∧ (ob = oa ++ edS v34.hold [] (v34.line.take i)) ∧ (ob.length ≤ oa.length + 1000000) ∧ r__ 0 = (.pointer (some ⟨tb, 0, none⟩)) ∧ r__ 2 = (.slice none 0 0) ∧ r__ 3 = vb ∧ r__ 5 = (S x28) ∧ r__ 6 = (.pointer (some ⟨b33, 0, none⟩)) ∧ r__ 12 = v8 ∧ r__ 13 = (.int .i64 (((namesS v.keys).length : Nat) : Int)) ∧ r__ 14 = (.int .i64 (k : Int)) ∧ r__ 15 = (.bool (decide ((k : Int) < (((namesS v.keys).length : Nat) : Int)))) ∧ r__ 27 = x37 ∧ r__ 28 = (.int .i64 ((v34.line.length : Nat) : Int)) ∧ r__ 29 = (.int .i64 (i : Int))
      refine c_loop I43 _ ⟨0, va, sa, oa, rfl, hH18, Nat.zero_le _, hoa, (by simp [edS]), (by omega), e14_0, e14_2, e14_3, rfl, rfl, e14_12, e14_13, e14_14, rfl, rfl, rfl, rfl⟩ ?_
      rintro n_ r46 w44 ⟨i, vb, sb, ob, rfl, hH45, hi, hob, hfb, hlb, e42_0, e42_2, e42_3, e42_5, e42_6, e42_12, e42_13, e42_14, e42_15, e42_27, e42_28, e42_29⟩
      refine wp_seq_k fun K47 hK47 => ?_
      refine c_region ?_
      refine s_op (o_lss (a := (i : Int)) (b := ((v34.line.length : Nat) : Int)) e42_29 e42_28 ?_)
      refine s_nil ?_
      refine t_norm (hK47 _ _ ?_)
      refine wp_seq_k fun K48 hK48 => ?_
      refine c_cond rfl (fun h49 => ?_) (fun h49 => ?_)
      · -- (i : Int) < ((v34.line.length : Nat) : Int)
        refine wp_skip ?_
        refine t_norm (hK48 _ _ ?_)
        refine wp_seq_k fun K50 hK50 => ?_
        refine wp_block ?_
        refine wp_seq_k fun K51 hK51 => ?_
        refine c_region ?_
        refine s_op (o_move (v := (.int .i64 (i : Int))) e42_29 ?_)
        obtain ⟨x55, hx56⟩ : ∃ x_, v34.line[((i : Int)).toNat]? = some x_ := get_some (by omega)
        refine s_op (o_indexF plC_len Try.underlying166 ti170 e42_27 f39 rfl e42_29 (by omega) hx56 fun b52 o53 hc54 => ?_)
        refine s_op (o_loadN (cs := [(S x55.key), (.bool x55.wr), (.int .i64 x55.own)]) Try.underlying170 rfl ti170 rfl hH45 (seg_sub 2 rfl) hc54 ?_)
        refine s_op (o_alloc (cs := #[(S ([] : List UInt8)), (.bool false), (.int .i64 0)]) ti170 rfl hH45 fun b57 w58 hH59 => ?_)
        refine s_op (o_assign (v := (.int .i64 (i : Int))) rfl ?_)
        refine s_eff (o_storeN (vs := [(S x55.key), (.bool x55.wr), (.int .i64 x55.own)]) (c' := #[(S x55.key), (.bool x55.wr), (.int .i64 x55.own)]) ti170 rfl rfl rfl rfl (by intro u hu; simp only [List.mem_cons, List.not_mem_nil, or_false] at hu; rcases hu with rfl | rfl | rfl <;> first | rfl) (by simp) (by kernel_rfl) (hH59.front 0 rfl) fun w60 hH61 => ?_)
        refine s_nil ?_
        refine t_norm (hK51 _ _ ?_)
        refine wp_seq_k fun K62 hK62 => ?_
        refine Rest.region mixed (by kernel_rfl) ?_
        have hH63 : Has E { w60 with drawn := w60.drawn + 1 } [[Hp.one b57 (.cells #[(S x55.key), (.bool x55.wr), (.int .i64 x55.own)] 170 (0, 0))], sb, s9, R] := Has0.drew hH61 _
        refine Rest.phaseA (fun w_ => Has E w_ [R]) 0 14 14 rfl (by decide) (by kernel_rfl) ?_
        refine a_op 0 rfl (by kernel_rfl) (fun w_ h_ => o_move (v := (.pointer (some ⟨b33, 0, none⟩))) e42_6 ⟨rfl, rfl⟩) ?_
        refine a_op 1 rfl (by kernel_rfl) (fun w_ h_ => o_nilCheck rfl ⟨rfl, rfl⟩) ?_
        refine a_op 2 rfl (by kernel_rfl) (fun w_ h_ => o_fieldAddr (k := 0) (fun _ => by kernel_rfl) rfl ⟨rfl, rfl⟩) ?_
        refine a_op 3 rfl (by kernel_rfl) (fun w_ h_ => o_load1 (v := x36) Try.underlying166 rfl rfl h_ (seg_sub 0 rfl) (CellsAt.field (k := 0) (ds := [x36]) hc40 rfl) ⟨rfl, rfl⟩) ?_
        refine a_op 4 rfl (by kernel_rfl) (fun w_ h_ => o_move (v := (.pointer (some ⟨b33, 0, none⟩))) e42_6 ⟨rfl, rfl⟩) ?_
        refine a_op 5 rfl (by kernel_rfl) (fun w_ h_ => o_nilCheck rfl ⟨rfl, rfl⟩) ?_
        refine a_op 6 rfl (by kernel_rfl) (fun w_ h_ => o_fieldAddr (k := 1) (fun _ => by kernel_rfl) rfl ⟨rfl, rfl⟩) ?_
        refine a_op 7 rfl (by kernel_rfl) (fun w_ h_ => o_load1 (v := x37) Try.underlying166 rfl rfl h_ (seg_sub 0 rfl) (CellsAt.field (k := 1) (ds := [x37]) hc40 rfl) ⟨rfl, rfl⟩) ?_
        refine a_op 8 rfl (by kernel_rfl) (fun w_ h_ => o_move (v := (.int .i64 (i : Int))) rfl ⟨rfl, rfl⟩) ?_
        refine a_op 13 rfl (by kernel_rfl) (fun w_ h_ => o_move (v := (.int .i64 0)) rfl ⟨rfl, rfl⟩) ?_
        have hH64 : Has E { w60 with drawn := w60.drawn + 1 } [R] := (hH63.front 3 rfl).first 1 rfl
        refine a_w 9 rfl (by kernel_rfl) hH64 (o_slh Try.underlying166 ti170 rfl f39 rfl (by omega) (by omega) ?_)
        have hH65 : Has E { w60 with drawn := w60.drawn + 1 } [R] := (hH63.front 3 rfl).first 1 rfl
        refine a_w 10 rfl (by kernel_rfl) hH65 (o_buildSlice (ps := #[(0, x36), (1, (headV x37 ((i : Int)).toNat 3))]) (cells := #[x36, (headV x37 ((i : Int)).toNat 3)]) Try.underlying217 ti166 (by decide) (parts2 rfl rfl) (fill_one2 f38.one (Sl.one (sl_headf (f := plC) (fun _ => rfl) f39 (show ((i : Int)).toNat ≤ v34.line.length by omega))) rfl) hH63 fun b66 w67 hH68 => ?_)
        have hH69 : Has E w67 [R] := (hH68.front 4 rfl).first 1 rfl
        have hsz_ := hsz.get hS32
        refine a_w 11 rfl (by kernel_rfl) hH69 (o_callf (vs := #[(.slice (some ⟨b66, 0, none⟩) 2 2)]) ca96 rfl (args1 rfl) (pconcat_c (ls := [(x36, v34.hold), ((headV x37 ((i : Int)).toNat 3), v34.line.take ((i : Int)).toNat)]) hH68.all ((sl_lit (f := rwV) (l := [(x36, v34.hold), ((headV x37 ((i : Int)).toNat 3), v34.line.take ((i : Int)).toNat)]) rfl rfl (by simp)).mono (seg_sub 0 rfl)) (fun q_ hq_ => by simp only [List.mem_cons, List.not_mem_nil, or_false] at hq_; rcases hq_ with rfl | rfl; exact (f38.mono (seg_sub 4 rfl)); exact ((sl_headf (f := plC) (fun _ => rfl) f39 (show ((i : Int)).toNat ≤ v34.line.length by omega)).mono (seg_sub 4 rfl))) (by first | omega | (simp only []; omega) | (simp; done) | (simp; omega))) ?_)
        rintro _ w75 ⟨v70, s71, rfl, ho72, hX73⟩
        refine ⟨_, rfl, ?_⟩
        have hH74 : Has E w75 [s71, [Hp.one b66 (.cells #[x36, (headV x37 ((i : Int)).toNat 3)] 166 (0, 0))], [Hp.one b57 (.cells #[(S x55.key), (.bool x55.wr), (.int .i64 x55.own)] 170 (0, 0))], sb, s9, R] := hX73.of_all1
        refine a_op 12 rfl (by kernel_rfl) (fun w_ h_ => o_lenS Try.underlying166 rfl ho72.sl ⟨rfl, rfl⟩) ?_
        have hH76 : Has E w75 [R] := (hH74.front 5 rfl).first 1 rfl
        refine a_done (by kernel_rfl) hH76 ?_
        refine Rest.done (by kernel_rfl) ?_
        refine t_norm (hK62 _ _ ?_)
        refine wp_block ?_
        have hcc_ : ([(x36, v34.hold), ((headV x37 ((i : Int)).toNat 3), v34.line.take ((i : Int)).toNat)].flatMap (fun q_ : Value × List Plc => q_.2)) = v34.hold ++ v34.line.take i := by simp
        have hcl_ : ([(x36, v34.hold), ((headV x37 ((i : Int)).toNat 3), v34.line.take ((i : Int)).toNat)].flatMap (fun q_ : Value × List Plc => q_.2)).length ≤ 1000 := by rw [hcc_]; have h7_ := hsz.get hS32; simp only [List.length_append, List.length_take]; omega
        let I78 : Nat → (Nat → Value) → World → Prop := fun n__ r__ w__ => ∃ (j : Nat) (vc : Value) (sc : List Hp) (oc : List (Int × Int)), n__ = ([(x36, v34.hold), ((headV x37 ((i : Int)).toNat 3), v34.line.take ((i : Int)).toNat)].flatMap (fun q_ : Value × List Plc => q_.2)).length - j ∧ Has E w__ [sc, s71, [Hp.one b66 (.cells #[x36, (headV x37 ((i : Int)).toNat 3)] 166 (0, 0))], [Hp.one b57 (.cells #[(S x55.key), (.bool x55.wr), (.int .i64 x55.own)] 170 (0, 0))], s9, R] ∧ (j ≤ ([(x36, v34.hold), ((headV x37 ((i : Int)).toNat 3), v34.line.take ((i : Int)).toNat)].flatMap (fun q_ : Value × List Plc => q_.2)).length) ∧ (Own 95 2 vc oc.length (oc.flatMap tmC) sc) ∧ (oc = ob ++ (((([(x36, v34.hold), ((headV x37 ((i : Int)).toNat 3), v34.line.take ((i : Int)).toNat)].flatMap (fun q_ : Value × List Plc => q_.2)).take j).filter (clashS x55)).map (fun q => (x55.own, q.own)))) ∧ (oc.length ≤ ob.length + j) ∧ r__ 0 = (.pointer (some ⟨tb, 0, none⟩)) ∧ r__ 2 = (.slice none 0 0) ∧ r__ 3 = vc ∧ r__ 5 = (S x28) ∧ r__ 6 = (.pointer (some ⟨b33, 0, none⟩)) ∧ r__ 7 = (.int .i64 (i : Int)) ∧ r__ 8 = (.pointer (some ⟨b57, 0, none⟩)) ∧ r__ 12 = v8 ∧ r__ 13 = (.int .i64 (((namesS v.keys).length : Nat) : Int)) ∧ r__ 14 = (.int .i64 (k : Int)) ∧ r__ 15 = (.bool (decide ((k : Int) < (((namesS v.keys).length : Nat) : Int)))) ∧ r__ 27 = x37 ∧ r__ 28 = (.int .i64 ((v34.line.length : Nat) : Int)) ∧ r__ 29 = (.int .i64 (i : Int)) ∧ r__ 30 = (.bool (decide ((i : Int) < ((v34.line.length : Nat) : Int)))) ∧ r__ 45 = v70 ∧ r__ 46 = (.int .i64 ((([(x36, v34.hold), ((headV x37 ((i : Int)).toNat 3), v34.line.take ((i : Int)).toNat)].flatMap (fun q_ : Value × List Plc => q_.2)).length : Nat) : Int)) ∧ r__ 47 = (.int .i64 (j : Int))
        have hH79 : Has E w75 [sb, s71, [Hp.one b66 (.cells #[x36, (headV x37 ((i : Int)).toNat 3)] 166 (0, 0))], [Hp.one b57 (.cells #[(S x55.key), (.bool x55.wr), (.int .i64 x55.own)] 170 (0, 0))], s9, R] := Has.pick hH74 [3, 0, 0, 0, 0, 0] (by kernel_rfl)
        refine c_loop I78 _ ⟨0, vb, sb, ob, rfl, hH79, Nat.zero_le _, hob, (by simp), (by omega), e42_0, e42_2, e42_3, e42_5, e42_6, rfl, rfl, e42_12, e42_13, e42_14, e42_15, e42_27, e42_28, e42_29, rfl, rfl, rfl, rfl⟩ ?_
        rintro n_ r82 w80 ⟨j, vc, sc, oc, rfl, hH81, hj, hoc, hfc, hlc, e77_0, e77_2, e77_3, e77_5, e77_6, e77_7, e77_8, e77_12, e77_13, e77_14, e77_15, e77_27, e77_28, e77_29, e77_30, e77_45, e77_46, e77_47⟩
        refine wp_seq_k fun K83 hK83 => ?_
        refine c_region ?_
        refine s_op (o_lss (a := (j : Int)) (b := ((([(x36, v34.hold), ((headV x37 ((i : Int)).toNat 3), v34.line.take ((i : Int)).toNat)].flatMap (fun q_ : Value × List Plc => q_.2)).length : Nat) : Int)) e77_47 e77_46 ?_)
        refine s_nil ?_
        refine t_norm (hK83 _ _ ?_)
        refine wp_seq_k fun K84 hK84 => ?_
        refine c_cond rfl (fun h85 => ?_) (fun h85 => ?_)
        · -- (j : Int) < ((([(x36, v34.hold), ((headV x37 ((i : Int)).toNat 3), v34.line.take ((i : Int)).toNat)].flatMap (fun q_ : Value × List Plc => q_.2)).length : Nat) : Int)
          refine wp_skip ?_
          refine t_norm (hK84 _ _ ?_)
          refine wp_seq_k fun K86 hK86 => ?_
          refine wp_block ?_
          refine wp_seq_k fun K87 hK87 => ?_
          refine c_region ?_
          obtain ⟨x91, hx92⟩ : ∃ x_, ([(x36, v34.hold), ((headV x37 ((i : Int)).toNat 3), v34.line.take ((i : Int)).toNat)].flatMap (fun q_ : Value × List Plc => q_.2))[((j : Int)).toNat]? = some x_ := get_some (by omega)
          refine s_op (o_indexF plC_len Try.underlying166 ti170 e77_45 ho72.sl rfl e77_47 (by omega) hx92 fun b88 o89 hc90 => ?_)
          refine s_op (o_loadN (cs := [(S x91.key), (.bool x91.wr), (.int .i64 x91.own)]) Try.underlying170 rfl ti170 rfl hH81 (seg_sub 1 rfl) hc90 ?_)
          refine s_op (o_alloc (cs := #[(S ([] : List UInt8)), (.bool false), (.int .i64 0)]) ti170 rfl hH81 fun b93 w94 hH95 => ?_)
          refine s_eff (o_storeN (vs := [(S x91.key), (.bool x91.wr), (.int .i64 x91.own)]) (c' := #[(S x91.key), (.bool x91.wr), (.int .i64 x91.own)]) ti170 rfl rfl rfl rfl (by intro u hu; simp only [List.mem_cons, List.not_mem_nil, or_false] at hu; rcases hu with rfl | rfl | rfl <;> first | rfl) (by simp) (by kernel_rfl) (hH95.front 0 rfl) fun w96 hH97 => ?_)
          refine s_nil ?_
          refine t_norm (hK87 _ _ ?_)
          refine wp_seq_k fun K98 hK98 => ?_
          refine c_region ?_
          refine s_op (o_loadN (cs := [(S x55.key), (.bool x55.wr), (.int .i64 x55.own)]) Try.underlying170 rfl ti170 e77_8 hH97 (seg_sub 4 rfl) (CellsAt.one rfl) ?_)
          refine s_op (o_loadN (cs := [(S x91.key), (.bool x91.wr), (.int .i64 x91.own)]) Try.underlying170 rfl ti170 rfl hH97 (seg_sub 0 rfl) (CellsAt.one rfl) ?_)
          refine s_op (o_callf (vs := #[(.agg #[(S x55.key), (.bool x55.wr), (.int .i64 x55.own)]), (.agg #[(S x91.key), (.bool x91.wr), (.int .i64 x91.own)])]) ca97 rfl (args2 rfl rfl) (clash_c (p := x55) (q := x91) hH97.all ) ?_)
          rintro _ w101 ⟨rfl, hX99⟩
          refine ⟨_, rfl, ?_⟩
          have hH100 := hX99.of_all
          refine s_nil ?_
          refine t_norm (hK98 _ _ ?_)
          refine c_condb rfl (fun h102 => ?_) (fun h102 => ?_)
          · -- clashS x55 x91
            refine c_region ?_
            refine s_op (o_move (v := vc) e77_3 ?_)
            refine s_op (o_fieldAddr (k := 2) (fun _ => by kernel_rfl) e77_8 ?_)
            refine s_op (o_load1 (v := (.int .i64 x55.own)) Try.underlying3 rfl rfl hH100 (seg_sub 4 rfl) (CellsAt.one rfl) ?_)
            refine s_op (o_fieldAddr (k := 2) (fun _ => by kernel_rfl) rfl ?_)
            refine s_op (o_load1 (v := (.int .i64 x91.own)) Try.underlying3 rfl rfl hH100 (seg_sub 0 rfl) (CellsAt.one rfl) ?_)
            refine s_op (o_sight (v := (.agg #[(.int .i64 x55.own), (.int .i64 x91.own)])) (fun _ => by kernel_rfl) ?_)
            refine s_op (o_buildSlice (ps := #[(0, (.agg #[(.int .i64 x55.own), (.int .i64 x91.own)]))]) (cells := #[(.int .i64 x55.own), (.int .i64 x91.own)]) Try.underlying82 ti95 (by decide) (parts1 rfl) (by kernel_rfl) hH100 fun b103 w104 hH105 => ?_)
            refine s_op (o_append Try.underlying82 ti95 rfl (by decide) rfl hoc rfl (sl_litF (f := tmC) (l := [(x55.own, x91.own)]) tmC_len rfl rfl (by simp)) (hH105.front 2 rfl) (seg_sub 0 rfl) (one_tm _) (by simp; omega) (by simp; omega) fun v106 s107 w109 ho108 hH110 => ?_)
            have ho108 : Own 95 2 v106 (oc ++ [(x55.own, x91.own)]).length ((oc ++ [(x55.own, x91.own)]).flatMap tmC) s107 := ho108.appF
            refine s_op (o_assign (v := v106) rfl ?_)
            refine s_nil ?_
            refine b_norm ?_
            refine t_norm (hK86 _ _ ?_)
            refine c_region ?_
            refine s_op (o_add (a := (j : Int)) (b := 1) e77_47 rfl (w64 (by omega) (by omega)) ?_)
            refine s_op (o_move (v := (.int .i64 ((j : Int) + 1))) rfl ?_)
            refine s_nil ?_
            have hH111 : Has E w109 [s107, s71, [Hp.one b66 (.cells #[x36, (headV x37 ((i : Int)).toNat 3)] 166 (0, 0))], [Hp.one b57 (.cells #[(S x55.key), (.bool x55.wr), (.int .i64 x55.own)] 170 (0, 0))], s9, R] := Has.pick hH110 [0, 2, 2, 2, 2, 2] (by kernel_rfl)
            refine t_norm ⟨([(x36, v34.hold), ((headV x37 ((i : Int)).toNat 3), v34.line.take ((i : Int)).toNat)].flatMap (fun q_ : Value × List Plc => q_.2)).length - (j + 1), _, rfl, ?_, ?_⟩
            · omega
            · exact ⟨(j + 1), v106, s107, (oc ++ [(x55.own, x91.own)]), rfl, hH111, (by omega), (ho108), (by rw [fil_step (show ([(x36, v34.hold), ((headV x37 ((i : Int)).toNat 3), v34.line.take ((i : Int)).toNat)].flatMap (fun q_ : Value × List Plc => q_.2))[j]? = some _ from hx92) h102, ← List.append_assoc, ← hfc]), (by first | omega | (simp only [List.length_append, List.length_cons, List.length_nil]; omega)), e77_0, e77_2, rfl, e77_5, e77_6, e77_7, e77_8, e77_12, e77_13, e77_14, e77_15, e77_27, e77_28, e77_29, e77_30, e77_45, e77_46, rfl⟩
          · -- not: clashS x55 x91
            refine wp_skip ?_
            refine b_norm ?_
            refine t_norm (hK86 _ _ ?_)
            refine c_region ?_
            refine s_op (o_add (a := (j : Int)) (b := 1) e77_47 rfl (w64 (by omega) (by omega)) ?_)
            refine s_op (o_move (v := (.int .i64 ((j : Int) + 1))) rfl ?_)
            refine s_nil ?_
            have hH112 : Has E w101 [sc, s71, [Hp.one b66 (.cells #[x36, (headV x37 ((i : Int)).toNat 3)] 166 (0, 0))], [Hp.one b57 (.cells #[(S x55.key), (.bool x55.wr), (.int .i64 x55.own)] 170 (0, 0))], s9, R] := Has.pick hH100 [1, 1, 1, 1, 1, 1] (by kernel_rfl)
            refine t_norm ⟨([(x36, v34.hold), ((headV x37 ((i : Int)).toNat 3), v34.line.take ((i : Int)).toNat)].flatMap (fun q_ : Value × List Plc => q_.2)).length - (j + 1), _, rfl, ?_, ?_⟩
            · omega
            · exact ⟨(j + 1), vc, sc, oc, rfl, hH112, (by omega), (hoc), (by rw [fil_skip (show ([(x36, v34.hold), ((headV x37 ((i : Int)).toNat 3), v34.line.take ((i : Int)).toNat)].flatMap (fun q_ : Value × List Plc => q_.2))[j]? = some _ from hx92) h102, ← hfc]), (by first | omega | (simp only [List.length_append, List.length_cons, List.length_nil]; omega)), e77_0, e77_2, e77_3, e77_5, e77_6, e77_7, e77_8, e77_12, e77_13, e77_14, e77_15, e77_27, e77_28, e77_29, e77_30, e77_45, e77_46, rfl⟩
        · -- not: (j : Int) < ((([(x36, v34.hold), ((headV x37 ((i : Int)).toNat 3), v34.line.take ((i : Int)).toNat)].flatMap (fun q_ : Value × List Plc => q_.2)).length : Nat) : Int)
          refine wp_exit ?_
          refine t_exit (t_exit (x_in (?_)))
          refine b_norm ?_
          refine t_norm (hK50 _ _ ?_)
          refine c_region ?_
          refine s_op (o_add (a := (i : Int)) (b := 1) e77_29 rfl (w64 (by omega) (by omega)) ?_)
          refine s_op (o_move (v := (.int .i64 ((i : Int) + 1))) rfl ?_)
          refine s_nil ?_
          have hH113 : Has E w80 [sc, s9, R] := (((hH81.front 5 rfl).front 5 rfl).front 2 rfl).first 3 rfl
          refine t_norm ⟨v34.line.length - (i + 1), _, rfl, ?_, ?_⟩
          · omega
          have hj_ : j = ([(x36, v34.hold), ((headV x37 ((i : Int)).toNat 3), v34.line.take ((i : Int)).toNat)].flatMap (fun q_ : Value × List Plc => q_.2)).length := by omega
          · exact ⟨(i + 1), vc, sc, oc, rfl, hH113, (by omega), (hoc), (by rw [edS_step (show v34.line[i]? = some _ from hx56), hfc, hj_, List.take_length, hcc_, hfb, List.append_assoc]), (by have h8_ := edgK_len hsz hS32 (i + 1); rw [edS_step (show v34.line[i]? = some _ from hx56)] at h8_; have h9_ := congrArg List.length hfb; rw [hfc, hj_, List.take_length, hcc_]; simp only [List.length_append] at *; omega), e77_0, e77_2, e77_3, e77_5, e77_6, e77_12, e77_13, e77_14, e77_15, e77_27, e77_28, rfl⟩
      · -- not: (i : Int) < ((v34.line.length : Nat) : Int)
        refine wp_exit ?_
        refine t_exit (t_exit (x_in (?_)))
        refine b_norm ?_
        refine t_norm (hK23 _ _ ?_)
        refine c_region ?_
        refine s_op (o_add (a := (k : Int)) (b := 1) e42_14 rfl (w64 (by omega) (by omega)) ?_)
        refine s_op (o_move (v := (.int .i64 ((k : Int) + 1))) rfl ?_)
        refine s_nil ?_
        refine t_norm ⟨(namesS v.keys).length - (k + 1), _, rfl, ?_, ?_⟩
        · omega
        have hi_ : i = v34.line.length := by omega
        have hob_ : ob = oa ++ edS v34.hold [] v34.line := by rw [hfb, hi_, List.take_length]
        · exact ⟨(k + 1), vb, sb, ob, rfl, hH45, (by omega), (by have h8_ := edgK_len hsz hS32 v34.line.length; rw [List.take_length] at h8_; rw [hob_, List.length_append]; omega), (hob), (by rw [hob_, edges_step (show (namesS v.keys)[k]? = some _ from hx29) hS32, ← hfa]), e42_0, e42_2, e42_3, e42_12, e42_13, rfl⟩
  · -- not: (k : Int) < (((namesS v.keys).length : Nat) : Int)
    refine wp_exit ?_
    refine t_exit (t_exit (x_in (?_)))
    refine t_norm (hK6 _ _ ?_)
    refine wp_seq_k fun K114 hK114 => ?_
    refine c_region ?_
    refine s_op (o_move (v := va) e14_3 ?_)
    refine s_op (o_assign (v := va) rfl ?_)
    refine s_nil ?_
    refine t_norm (hK114 _ _ ?_)
    refine wp_ret ?_
    refine c_ret1 Try.results45  (v := va) rfl ?_
    have q115 : (edgesS v.keys) = oa := by (have he_ : k = (namesS v.keys).length := by omega); rw [edges_eq, hfa, he_, List.take_length]
    have hH116 : Has E w17 [sa, R] := ((hH18.front 2 rfl).front 1 rfl).first 2 rfl
    exact ⟨_, _, rfl, (by rw [q115]; exact hoa), hH116⟩
end Go.Q
namespace Go.Q
structure LkB (t : Tab) (n : Nat) : Prop where
  len : t.length ≤ n
  ent : ∀ p ∈ t, p.1.length ≤ 100 ∧ p.2.hold.length + p.2.line.length ≤ n
theorem LkB.nil : LkB [] 0 := ⟨by simp, by simp⟩
theorem LkB.mono {t : Tab} {n m : Nat} (h : LkB t n) (hm : n ≤ m) : LkB t m := ⟨Nat.le_trans h.len hm, fun p hp => ⟨(h.ent p hp).1, Nat.le_trans (h.ent p hp).2 hm⟩⟩
theorem LkB.hkl {t : Tab} {n : Nat} (h : LkB t n) : ∀ p_ ∈ t, p_.1.length ≤ 1000 := fun p hp => Nat.le_trans (h.ent p hp).1 (by decide)
theorem LkB.hkn {t : Tab} {n : Nat} (h : LkB t n) (hn : n ≤ 1000) : t.length ≤ 1000 := Nat.le_trans h.len hn
theorem LkB.sz {t : Tab} {n : Nat} (h : LkB t n) (hn : n ≤ 1000) : szT t := fun p hp => Nat.le_trans (h.ent p hp).2 hn
theorem insAt_len {α : Type} (l : List α) (i : Nat) (p : α) : (insAt l i p).length = l.length + 1 := by
  unfold insAt; simp only [List.length_append, List.length_take, List.length_drop, List.length_singleton]; omega
theorem waitS_len (h l : List Plc) (p : Plc) : (waitS h l p).length = l.length + 1 := by
  unfold waitS; split
  · simp
  · split
    · simp
    · exact insAt_len _ _ _
theorem askE_len (e : Ent) (p : Plc) : (askE e p).1.hold.length + (askE e p).1.line.length ≤ e.hold.length + e.line.length + 1 := by
  unfold askE; split
  · show e.hold.length + e.line.length ≤ _; omega
  · split
    · have := holdS_len e.hold p; simp only; omega
    · have := waitS_len e.hold e.line p; simp only; omega
theorem entOf_len {t : Tab} {n : Nat} (h : LkB t n) (k : Bs) : (entOf t k).hold.length + (entOf t k).line.length ≤ n := by
  cases hg : getB t k with
  | none => rw [ent_none hg]; simp
  | some e => rw [ent_some hg]; exact (h.ent _ (getB_memp hg)).2
theorem LkB.ask {t : Tab} {n : Nat} (h : LkB t n) {o : Int} {k : Bs} {wr : Bool} (hk : k.length ≤ 100) : LkB (askS t o k wr).1 (n + 1) := by
  unfold askS
  split
  · exact h.mono (by omega)
  · split
    · exact h.mono (by omega)
    · refine ⟨?_, fun p hp => ?_⟩
      · have := (putB_len k (askE (entOf t k) ⟨k, wr, o⟩).1 t).1; have := h.len; simp only; omega
      · rcases mem_putB hp with g | g
        · have := h.ent p g; exact ⟨this.1, by omega⟩
        · have h1 := askE_len (entOf t k) ⟨k, wr, o⟩
          have h2 := entOf_len h k
          rw [g]; exact ⟨hk, by simp only; omega⟩
theorem delB_len {κ β : Type} [DecidableEq κ] (k : κ) (l : List (κ × β)) : (delB l k).length ≤ l.length := (delB_sub k l).length_le
theorem leaveF_ind {all : Bool} {ow : List Int} (Q : Tab → Prop) (hs : ∀ t k e, Q t → getB t k = some e → Q (setE t k ⟨(leftE all ow e).2.1, (leftE all ow e).2.2⟩)) :
    ∀ (ks : List Bs) (t : Tab), Q t → ks.Nodup → (t.map (·.1)).Nodup → (∀ y ∈ ks, (getB t y).isSome = true) → Q (leaveF all ow t ks).1
  | [], t, h, _, _, _ => h
  | k :: ks, t, h, hn, hd, hi => by
    obtain ⟨e, he⟩ := Option.isSome_iff_exists.1 (hi k (List.mem_cons_self ..))
    have hn' := List.nodup_cons.1 hn
    rw [leaveF, ent_some he]
    have hks : ∀ y ∈ ks, (getB (setE t k ⟨(leftE all ow e).2.1, (leftE all ow e).2.2⟩) y).isSome = true := fun y hy =>
      leave_keep (y := y) (x := k) (b := (leftE all ow e).2.1 = []) (fun g => hn'.1 (by rw [← g]; exact hy)) (hi y (List.mem_cons_of_mem _ hy)) hd (by unfold setE; rfl)
    refine leaveF_ind Q hs ks _ (hs t k e h he) hn'.2 ?_ hks
    unfold setE
    have hp : ((putB t k (⟨(leftE all ow e).2.1, (leftE all ow e).2.2⟩ : Ent)).map (·.1)).Nodup := by
      rw [putB_keys, if_pos (getB_mem.1 (by rw [he]; rfl))]; exact hd
    split
    · exact hp.sublist ((delB_sub k _).map _)
    · exact hp
theorem leave_ind {all : Bool} {ow : List Int} {t : Tab} (Q : Tab → Prop) (hs : ∀ t k e, Q t → getB t k = some e → Q (setE t k ⟨(leftE all ow e).2.1, (leftE all ow e).2.2⟩)) (h : Q t) (hd : (t.map (·.1)).Nodup) : Q (leaveS all ow t).1 :=
  leaveF_ind Q hs _ t h (names_nodup hd) hd fun y hy => getB_mem.2 (names_mem.1 hy)
theorem LkB.leave {t : Tab} {n : Nat} (h : LkB t n) (hd : (t.map (·.1)).Nodup) {all : Bool} {ow : List Int} : LkB (leaveS all ow t).1 n := by
  refine leave_ind (fun t => LkB t n) (fun t k e h he => ?_) h hd
  have h1 := (leftE_len all ow e).1
  have h2 : k.length ≤ 100 ∧ e.hold.length + e.line.length ≤ n := h.ent _ (getB_memp he)
  have h3 : LkB (putB t k (⟨(leftE all ow e).2.1, (leftE all ow e).2.2⟩ : Ent)) n := ⟨by rw [putB_same he]; exact h.len, fun p hp => by
    rcases mem_putB hp with g | g
    · exact h.ent p g
    · rw [g]; exact ⟨h2.1, by simp only; omega⟩⟩
  unfold setE; split
  · exact ⟨Nat.le_trans (delB_len _ _) h3.len, fun p hp => h3.ent p (mem_delB hp)⟩
  · exact h3
theorem ask_nodup {t : Tab} (h : (t.map (·.1)).Nodup) {o : Int} {k : Bs} {wr : Bool} : ((askS t o k wr).1.map (·.1)).Nodup := by
  unfold askS; split
  · exact h
  · split
    · exact h
    · simp only; rw [putB_keys]; split
      · exact h
      · rename_i g; rw [List.nodup_append]; exact ⟨h, by simp, fun a ha b hb e => g (by rw [List.mem_singleton] at hb; rw [← hb, ← e]; exact ha)⟩
theorem set_nodup {t : Tab} (h : (t.map (·.1)).Nodup) {k : Bs} {e e' : Ent} (hg : getB t k = some e) : ((setE t k e').map (·.1)).Nodup := by
  have hp : ((putB t k e').map (·.1)).Nodup := by rw [putB_keys, if_pos (getB_mem.1 (by rw [hg]; rfl))]; exact h
  unfold setE; split
  · exact hp.sublist ((delB_sub k _).map _)
  · exact hp
theorem leave_nodup {t : Tab} (h : (t.map (·.1)).Nodup) {all : Bool} {ow : List Int} : ((leaveS all ow t).1.map (·.1)).Nodup :=
  leave_ind (fun t => (t.map (·.1)).Nodup) (fun _ _ _ h hg => set_nodup h hg) h h
/-! nobody waits who may have it -/
def Stopped (e : Ent) : Prop := e.hold ≠ [] ∧ (e.line = [] ∨ ∃ x, e.line[0]? = some x ∧ freeS e.hold x = false)
theorem grant_stops : ∀ (l h : List Plc), (grantS h l).2.2 = [] ∨ ∃ x, (grantS h l).2.2[0]? = some x ∧ freeS (grantS h l).2.1 x = false
  | [], h => .inl rfl
  | p :: t, h => by
    rw [grantS]
    split
    · exact grant_stops t (holdS h p)
    · rename_i g; exact .inr ⟨p, rfl, by simpa using g⟩
theorem leftE_stopped {all : Bool} {ow : List Int} {e : Ent} (h : (leftE all ow e).2.1 ≠ []) : Stopped ⟨(leftE all ow e).2.1, (leftE all ow e).2.2⟩ := ⟨h, grant_stops _ _⟩
def LkS (t : Tab) : Prop := ∀ p ∈ t, Stopped p.2
theorem LkS.leave {t : Tab} (h : LkS t) (hd : (t.map (·.1)).Nodup) {all : Bool} {ow : List Int} : LkS (leaveS all ow t).1 := by
  refine (leave_ind (fun t => LkS t ∧ (t.map (·.1)).Nodup) (fun t k e h he => ⟨?_, set_nodup h.2 he⟩) ⟨h, hd⟩ hd).1
  intro p hp
  by_cases hz : (leftE all ow e).2.1 = []
  · unfold setE at hp
    rw [if_pos hz] at hp
    have hp2 := mem_delB hp
    rcases mem_putB hp2 with g | g
    · exact h.1 p g
    · exfalso
      have hnd : ((putB t k (⟨(leftE all ow e).2.1, (leftE all ow e).2.2⟩ : Ent)).map (·.1)).Nodup := by rw [putB_keys, if_pos (getB_mem.1 (by rw [he]; rfl))]; exact h.2
      have h3 : (getB (delB (putB t k (⟨(leftE all ow e).2.1, (leftE all ow e).2.2⟩ : Ent)) k) k) = none := by rw [getB_del _ _ _ hnd, if_pos rfl]
      have h4 := getB_mem.2 (List.mem_map.2 ⟨p, hp, rfl⟩)
      rw [show p.1 = k by rw [g], h3] at h4; cases h4
  · unfold setE at hp
    rw [if_neg hz] at hp
    rcases mem_putB hp with g | g
    · exact h.1 p g
    · rw [g]; exact leftE_stopped hz
theorem free_nil (p : Plc) : freeS [] p = true := rfl
theorem clash_comm (p q : Plc) : clashS p q = clashS q p := by unfold clashS; rw [Bool.or_comm, decide_eq_decide.2 ⟨Ne.symm, Ne.symm⟩]
theorem waitS_head {h l : List Plc} {p : Plc} (hs : l = [] ∨ ∃ x, l[0]? = some x ∧ freeS h x = false) (hp : freeS h p = false ∨ (atS h p.own < 0 ∧ l ≠ [])) : ∃ x, (waitS h l p)[0]? = some x ∧ freeS h x = false := by
  rcases hs with rfl | ⟨x, hx, hf⟩
  · have hp := hp.resolve_right (fun g => g.2 rfl)
    refine ⟨p, ?_, hp⟩
    unfold waitS; split
    · rfl
    · split
      · rfl
      · simp [insAt]
  · obtain ⟨y, l', rfl⟩ : ∃ y l', l = y :: l' := by cases l with
      | nil => simp at hx
      | cons a b => exact ⟨a, b, rfl⟩
    obtain rfl : y = x := by simpa using hx
    unfold waitS
    by_cases g : atS h p.own < 0
    · rw [if_pos g]; exact ⟨y, by simp, hf⟩
    · rw [if_neg g]
      have hp := hp.resolve_right (fun g' => g g'.1)
      split
      · exact ⟨y, by simp, hf⟩
      · unfold insAt
        generalize (lineS h (y :: l')).toNat = i
        cases i with
        | zero => exact ⟨p, by simp, hp⟩
        | succ i => exact ⟨y, by simp, hf⟩
theorem set_ne {α : Type} {l : List α} {i : Nat} {a : α} (h : l ≠ []) : l.set i a ≠ [] := by intro e; apply h; have := congrArg List.length e; rw [List.length_set] at this; exact List.eq_nil_of_length_eq_zero (by simpa using this)
theorem holdS_ne (h : List Plc) (p : Plc) : holdS h p ≠ [] := by
  unfold holdS; split
  · rename_i g
    have := atS_lt h p.own
    exact set_ne (fun e => by rw [e, at_nil] at g; omega)
  · simp
/-- who is held back is held back still, where one more is held, or for writing -/
theorem hold_stop {h : List Plc} {p x : Plc} (hx : freeS h x = false) (hp : 0 ≤ atS h p.own → ∀ q, h[(atS h p.own).toNat]? = some q → (q.wr = true → p.wr = true) ∧ q.own = p.own) : freeS (holdS h p) x = false := by
  unfold freeS at *
  simp only [Bool.not_eq_false', List.any_eq_true] at *
  obtain ⟨q, hq, hc⟩ := hx
  unfold holdS
  split
  · rename_i g
    have hlt := (atS_lt h p.own).2
    by_cases e : h[(atS h p.own).toNat]? = some q
    · obtain ⟨h1, h2⟩ := hp g q e
      refine ⟨p, List.mem_iff_getElem?.2 ⟨(atS h p.own).toNat, by rw [List.getElem?_set_self (by omega)]⟩, ?_⟩
      unfold clashS at *
      simp only [Bool.and_eq_true, decide_eq_true_eq, Bool.or_eq_true] at *
      exact ⟨by rw [← h2]; exact hc.1, hc.2.imp id h1⟩
    · obtain ⟨j, hj⟩ := List.mem_iff_getElem?.1 hq
      refine ⟨q, List.mem_iff_getElem?.2 ⟨j, ?_⟩, hc⟩
      rw [List.getElem?_set_ne (fun e' => e (by rw [e']; exact hj))]; exact hj
  · exact ⟨q, List.mem_append_left _ hq, hc⟩
theorem at_own {h : List Plc} {o : Int} {q : Plc} (h0 : 0 ≤ atS h o) (hq : h[(atS h o).toNat]? = some q) : q.own = o := by
  have := at_pos h0 hq
  have := List.find?_some this
  simpa [ownIs] using this
theorem LkS.ask {t : Tab} (h : LkS t) {o : Int} {k : Bs} {wr : Bool} : LkS (askS t o k wr).1 := by
  unfold askS
  split
  · exact h
  · split
    · exact h
    · intro p hp
      rcases mem_putB hp with g | g
      · exact h p g
      · rw [g]
        show Stopped (askE (entOf t k) ⟨k, wr, o⟩).1
        have hst : (entOf t k) = ⟨[], []⟩ ∨ Stopped (entOf t k) := by
          cases hg : getB t k with
          | none => exact .inl (ent_none hg)
          | some e => rw [ent_some hg]; exact .inr (h _ (getB_memp hg))
        unfold askE
        split
        · rename_i g1
          rcases hst with e | e
          · rw [e] at g1; exact absurd g1.1 (by rw [at_nil]; decide)
          · exact e
        · rename_i g1
          split
          · rename_i g2
            refine ⟨holdS_ne _ _, ?_⟩
            rcases hst with e | ⟨e1, e2⟩
            · rw [e]; exact .inl rfl
            · rcases e2 with e2 | ⟨x, hx, hf⟩
              · exact .inl e2
              · refine .inr ⟨x, hx, hold_stop hf fun h0 q hq => ⟨fun hw => ?_, at_own h0 hq⟩⟩
                cases wr with
                | true => rfl
                | false => exact absurd ⟨h0, .inr rfl⟩ g1
          · rename_i g2
            rcases hst with e | ⟨e1, e2⟩
            · rw [e] at g2; exact absurd ⟨free_nil _, .inr rfl⟩ g2
            · refine ⟨e1, .inr (waitS_head e2 ?_)⟩
              cases hf : freeS (entOf t k).hold ⟨k, wr, o⟩ with
              | false => exact .inl rfl
              | true =>
                refine .inr ⟨?_, fun e => g2 ⟨hf, .inr e⟩⟩
                rcases Int.lt_or_le (atS (entOf t k).hold o) 0 with g | g
                · exact g
                · exact absurd ⟨hf, .inl g⟩ g2
/-! who asks, must wait, and quits -/
theorem putB_self {κ β : Type} [DecidableEq κ] {k : κ} {e : β} : ∀ {t : List (κ × β)}, getB t k = some e → putB t k e = t
  | [], h => by simp [getB] at h
  | (a, x) :: t, h => by
    rw [getB] at h; rw [putB]; split
    · rename_i g; rw [if_pos g] at h; cases h; rw [g]
    · rename_i g; rw [if_neg g] at h; rw [putB_self h]
theorem fil_none {l : List Plc} {o : Int} (h : l.find? (ownIs o) = none) : l.filter (fun p => !goneS [o] p) = l := by
  rw [List.find?_eq_none] at h
  exact List.filter_eq_self.2 fun a ha => by have := h a ha; simpa [goneS, ownIs] using this
theorem fil_waitS {h l : List Plc} {p : Plc} (hn : l.find? (ownIs p.own) = none) : (waitS h l p).filter (fun q => !goneS [p.own] q) = l := by
  have hg : goneS [p.own] p = true := by simp [goneS]
  have h1 := fil_none hn
  unfold waitS insAt
  split
  · rw [List.filter_append, h1]; simp [hg]
  · split
    · rw [List.filter_append, h1]; simp [hg]
    · rw [List.filter_append, List.filter_append]
      simp only [List.filter_cons, hg, Bool.not_true, Bool.false_eq_true, if_false, List.filter_nil, List.append_nil]
      rw [← List.filter_append, List.take_append_drop, h1]
theorem waits_find {t : Tab} {o : Int} (h : waitsS t o = none) {y : Bs} : (entOf t y).line.find? (ownIs o) = none := by
  unfold waitsS at h
  rw [List.findSome?_eq_none_iff] at h
  by_cases hy : y ∈ namesS t
  · exact h y hy
  · have : getB t y = none := getB_none (fun g => hy (names_mem.2 g))
    rw [ent_none this]; rfl
theorem quit_same {t : Tab} {o : Int} (hs : LkS t) (hw : waitsS t o = none) : ∀ ks : List Bs, (∀ y ∈ ks, (getB t y).isSome = true) → leaveF false [o] t ks = (t, [])
  | [], _ => rfl
  | k :: ks, hi => by
    obtain ⟨e, he⟩ := Option.isSome_iff_exists.1 (hi k (List.mem_cons_self ..))
    have hst := hs _ (getB_memp he)
    have hl : leftE false [o] e = ([], e.hold, e.line) := by
      unfold leftE
      have := waits_find hw (y := k)
      rw [ent_some he] at this
      rw [fil_none this]; exact grant_stop hst.2
    rw [leaveF, ent_some he, hl]
    have h2 : setE t k ⟨e.hold, e.line⟩ = t := by
      unfold setE; rw [if_neg hst.1]; exact putB_self he
    simp only [h2, quit_same hs hw ks fun y hy => hi y (List.mem_cons_of_mem _ hy)]; rfl
theorem quit_back {t : Tab} {o : Int} {k : Bs} {e : Ent} {p : Plc} (hs : LkS t) (hw : waitsS t o = none) (he : getB t k = some e) (hp : p.own = o) : ∀ ks : List Bs, (∀ y ∈ ks, (getB t y).isSome = true) → ks.Nodup →
    leaveF false [o] (putB t k ⟨e.hold, waitS e.hold e.line p⟩) ks = (if k ∈ ks then t else putB t k ⟨e.hold, waitS e.hold e.line p⟩, [])
  | [], _, _ => by simp [leaveF]
  | y :: ks, hi, hn => by
    have hn' := List.nodup_cons.1 hn
    by_cases hy : y = k
    · subst hy
      have hst := hs _ (getB_memp he)
      have h0 := waits_find hw (y := y)
      rw [ent_some he] at h0
      have hl : leftE false [o] ⟨e.hold, waitS e.hold e.line p⟩ = ([], e.hold, e.line) := by
        unfold leftE
        simp only [Bool.false_eq_true, if_false]
        subst hp
        rw [fil_waitS h0]; exact grant_stop hst.2
      have hg : getB (putB t y (⟨e.hold, waitS e.hold e.line p⟩ : Ent)) y = some ⟨e.hold, waitS e.hold e.line p⟩ := by rw [getB_put, if_pos rfl]
      rw [leaveF, ent_some hg, hl]
      have h2 : setE (putB t y (⟨e.hold, waitS e.hold e.line p⟩ : Ent)) y ⟨e.hold, e.line⟩ = t := by
        unfold setE; rw [if_neg hst.1, putB_putB]; exact putB_self he
      simp only [h2, quit_same hs hw ks fun z hz => hi z (List.mem_cons_of_mem _ hz)]
      simp
    · obtain ⟨f, hf⟩ := Option.isSome_iff_exists.1 (hi y (List.mem_cons_self ..))
      have hst := hs _ (getB_memp hf)
      have h0 := waits_find hw (y := y)
      rw [ent_some hf] at h0
      have hl : leftE false [o] f = ([], f.hold, f.line) := by
        unfold leftE; rw [fil_none h0]; exact grant_stop hst.2
      have hg : getB (putB t k (⟨e.hold, waitS e.hold e.line p⟩ : Ent)) y = some f := by rw [getB_put, if_neg hy]; exact hf
      rw [leaveF, ent_some hg, hl]
      have h2 : setE (putB t k (⟨e.hold, waitS e.hold e.line p⟩ : Ent)) y ⟨f.hold, f.line⟩ = putB t k ⟨e.hold, waitS e.hold e.line p⟩ := by
        unfold setE; rw [if_neg hst.1]; exact putB_self hg
      simp only [h2, quit_back hs hw he hp ks (fun z hz => hi z (List.mem_cons_of_mem _ hz)) hn'.2]
      have : (k ∈ y :: ks) ↔ k ∈ ks := by rw [List.mem_cons]; exact ⟨fun g => g.resolve_left (fun e => hy e.symm), .inr⟩
      simp only [this, List.nil_append]
theorem ask_busy {t : Tab} {o : Int} {k : Bs} {wr : Bool} (h : (askS t o k wr).2 = 10) : waitsS t o = none ∧ ∃ e, getB t k = some e ∧ (askS t o k wr).1 = putB t k ⟨e.hold, waitS e.hold e.line ⟨k, wr, o⟩⟩ := by
  unfold askS at h ⊢
  split at h
  · exact absurd (show (1 : Int) = 10 from h) (by decide)
  · rename_i h0
    rw [if_neg h0]
    split at h
    · exact absurd (show (12 : Int) = 10 from h) (by decide)
    · rename_i hw
      rw [if_neg hw]
      refine ⟨by simpa using hw, ?_⟩
      simp only at h ⊢
      cases hg : getB t k with
      | none =>
        rw [ent_none hg] at h
        unfold askE at h
        rw [if_neg (fun g => absurd g.1 (by rw [at_nil]; decide)), if_pos ⟨free_nil _, .inr rfl⟩] at h
        exact absurd (show (0 : Int) = 10 from h) (by decide)
      | some e =>
        refine ⟨e, rfl, ?_⟩
        rw [ent_some hg] at h ⊢
        unfold askE at h ⊢
        split at h
        · exact absurd (show (0 : Int) = 10 from h) (by decide)
        · rename_i g1
          split at h
          · exact absurd (show (0 : Int) = 10 from h) (by decide)
          · rename_i g2
            rw [if_neg g1, if_neg g2]
theorem quits {t : Tab} {o : Int} {k : Bs} {wr : Bool} (hs : LkS t) (hd : (t.map (·.1)).Nodup) (h : (askS t o k wr).2 = 10) : leaveS false [o] (askS t o k wr).1 = (t, []) ∧ (linS (askS t o k wr).1 k).length = (linS t k).length + 1 := by
  obtain ⟨hw, e, he, ht⟩ := ask_busy h
  rw [ht]
  have hk : namesS (putB t k (⟨e.hold, waitS e.hold e.line ⟨k, wr, o⟩⟩ : Ent)) = namesS t := by
    unfold namesS; rw [putB_keys, if_pos (getB_mem.1 (by rw [he]; rfl))]
  refine ⟨?_, ?_⟩
  · unfold leaveS
    rw [hk, quit_back hs hw he rfl _ (fun y hy => getB_mem.2 (names_mem.1 hy)) (names_nodup hd), if_pos (names_mem.2 (getB_mem.1 (by rw [he]; rfl)))]
  · unfold linS
    rw [List.length_map, List.length_map, ent_some he, ent_some (show getB (putB t k (⟨e.hold, waitS e.hold e.line ⟨k, wr, o⟩⟩ : Ent)) k = _ from by rw [getB_put, if_pos rfl])]
    exact waitS_len _ _ _
end Go.Q
namespace Go.Q
structure LAct where
  kind : Int
  own : Int
  key : Bs
  wr : Bool
  mv : Value
  more : List Int
def laC (a : LAct) : List Value := [iV a.kind, iV a.own, S a.key, .bool a.wr, a.mv]
theorem laC_len (a : LAct) : (laC a).length = 5 := rfl
def LaOk (R : List Hp) (a : LAct) : Prop := Ints R a.mv a.more
theorem LaOk.mono {R R' : List Hp} {a : LAct} (h : LaOk R a) (hs : R ⊆ R') : LaOk R' a := Sl.mono h hs
def LFin (a : LAct) : Prop := a.key.length ≤ 100 ∧ a.more.length ≤ 10
def LFine (l : List LAct) : Prop := l.length ≤ 60 ∧ ∀ a ∈ l, LFin a
theorem LFine.snoc {l : List LAct} {k : Nat} {x : LAct} (h : ∀ a ∈ l.take k, LFin a) (hx : l[k]? = some x) (hf : LFin x) : ∀ a ∈ l.take (k + 1), LFin a := by
  rw [List.take_add_one, hx]
  intro y hy
  rcases List.mem_append.1 hy with g | g
  · exact h y g
  · simp at g; rw [g]; exact hf
theorem names_one (k : Bs) (e : Ent) : namesS [(k, e)] = [k] := by simp [namesS]
def awT1 : Tab := [([97], ⟨[⟨[97], false, 1⟩], []⟩)]
def awT2 : Tab := [([97], ⟨[⟨[97], false, 1⟩], [⟨[97], true, 2⟩]⟩)]
def awT3 : Tab := [([97], ⟨[⟨[97], false, 1⟩], [⟨[97], true, 2⟩, ⟨[97], false, 3⟩]⟩)]
def awT4 : Tab := [([97], ⟨[⟨[97], true, 2⟩], [⟨[97], false, 3⟩]⟩)]
def awT5 : Tab := [([97], ⟨[⟨[97], false, 3⟩], []⟩)]
theorem aw1 : askS [] 1 [97] false = (awT1, 0) := by
  unfold askS waitsS; rw [show namesS [] = [] by simp [namesS]]; rfl
theorem aw2 : askS awT1 2 [97] true = (awT2, 10) := by
  unfold askS waitsS; rw [show namesS awT1 = [[97]] from names_one _ _]; rfl
theorem aw3 : askS awT2 3 [97] false = (awT3, 10) := by
  unfold askS waitsS; rw [show namesS awT2 = [[97]] from names_one _ _]; rfl
theorem aw4 : leaveS true [1] awT3 = (awT4, [2]) := by
  unfold leaveS; rw [show namesS awT3 = [[97]] from names_one _ _]; rfl
theorem aw5 : leaveS true [2] awT4 = (awT5, [3]) := by
  unfold leaveS; rw [show namesS awT4 = [[97]] from names_one _ _]; rfl
theorem aw6 : (holdsC awT5 3).length = 1 := by
  unfold holdsC; rw [show namesS awT5 = [[97]] from names_one _ _]; decide
end Go.Q
namespace Go.Q
theorem LkS.nil : LkS [] := by intro p hp; cases hp
end Go.Q
namespace Go.Q
theorem linS_le {t : Tab} (h : szT t) (k : Bs) : (linS t k).length ≤ 1000 := by
  unfold linS
  rw [List.length_map]
  cases hg : getB t k with
  | none => rw [ent_none hg]; simp
  | some e => rw [ent_some hg]; have := h.get hg; omega
end Go.Q
namespace Go.Q
open Go.Proofs
set_option linter.unusedVariables false
set_option maxRecDepth 100000
attribute [local irreducible] wpList OK Code.wp
set_option maxHeartbeats 4000000 in
theorem same_c {E w : World} {R : List Hp} (hH : Has E w [R]) {va vb : Value} {a b : List Int} (hva : Ints R va a) (hvb : Ints R vb b) :
    Calls Try.prog 49 #[va, vb] w fun e w' => e = .returned (.bool (decide (a = b))) ∧ Has E w' [R] := by
  have hna := hva.le
  have hnb := hvb.le
  refine c_enter (args := [va, vb]) Try.func49 rfl Try.ntmps49 (by simp) ?_
  refine wp_seq_k fun K1 hK1 => ?_
  refine c_region ?_
  refine s_op (o_assign (v := (.bool false)) rfl ?_)
  refine s_nil ?_
  refine t_norm (hK1 _ _ ?_)
  refine wp_seq_k fun K2 hK2 => ?_
  refine wp_seq_k fun K3 hK3 => ?_
  refine c_region ?_
  refine s_op (o_move (v := va) rfl ?_)
  refine s_op (o_lenS Try.underlying54 rfl hva ?_)
  refine s_op (o_move (v := vb) rfl ?_)
  refine s_op (o_lenS Try.underlying54 rfl hvb ?_)
  refine s_op (o_neq (a := ((a.length : Nat) : Int)) (b := ((b.length : Nat) : Int)) rfl rfl ?_)
  refine s_nil ?_
  refine t_norm (hK3 _ _ ?_)
  refine c_cond rfl (fun h4 => ?_) (fun h4 => ?_)
  · -- ((a.length : Nat) : Int) ≠ ((b.length : Nat) : Int)
    refine wp_seq_k fun K5 hK5 => ?_
    refine c_region ?_
    refine s_op (o_assign (v := (.bool false)) rfl ?_)
    refine s_nil ?_
    refine t_norm (hK5 _ _ ?_)
    refine wp_ret ?_
    refine t_ret (c_ret1 Try.results49  (v := (.bool false)) rfl ?_)
    have e : a ≠ b := fun e => by
      subst e
      omega
    exact ⟨by rw [decide_eq_false e], hH⟩
  · -- not: ((a.length : Nat) : Int) ≠ ((b.length : Nat) : Int)
    refine wp_skip ?_
    refine t_norm (hK2 _ _ ?_)
    refine wp_seq_k fun K6 hK6 => ?_
    refine wp_seq_k fun K7 hK7 => ?_
    refine c_region ?_
    refine s_op (o_assign (v := (.int .i64 0)) rfl ?_)
    refine s_nil ?_
    refine t_norm (hK7 _ _ ?_)
    refine wp_block ?_
    let I9 : Nat → (Nat → Value) → World → Prop := fun n__ r__ w__ => ∃ (k : Nat), n__ = a.length - k ∧ Has E w__ [R] ∧ (k ≤ a.length) ∧ (∀ j, j < k → a[j]? = b[j]?) ∧ r__ 0 = va ∧ r__ 1 = vb ∧ r__ 5 = (.int .i64 (k : Int)) ∧ r__ 10 = (.bool (decide (((a.length : Nat) : Int) ≠ ((b.length : Nat) : Int))))
    refine c_loop I9 _ ⟨0, rfl, hH, Nat.zero_le _, (by omega), rfl, rfl, rfl, rfl⟩ ?_
    rintro n_ r12 w10 ⟨k, rfl, hH11, hk, he, e8_0, e8_1, e8_5, e8_10⟩
    refine wp_seq_k fun K13 hK13 => ?_
    refine wp_seq_k fun K14 hK14 => ?_
    refine c_region ?_
    refine s_op (o_move (v := (.int .i64 (k : Int))) e8_5 ?_)
    refine s_op (o_move (v := va) e8_0 ?_)
    refine s_op (o_lenS Try.underlying54 rfl hva ?_)
    refine s_op (o_lss (a := (k : Int)) (b := ((a.length : Nat) : Int)) rfl rfl ?_)
    refine s_nil ?_
    refine t_norm (hK14 _ _ ?_)
    refine c_cond rfl (fun h15 => ?_) (fun h15 => ?_)
    · -- (k : Int) < ((a.length : Nat) : Int)
      refine wp_skip ?_
      refine t_norm (hK13 _ _ ?_)
      refine wp_seq_k fun K16 hK16 => ?_
      refine wp_block ?_
      refine wp_seq_k fun K17 hK17 => ?_
      refine Rest.region mixed (by kernel_rfl) ?_
      have hH18 : Has E { w10 with drawn := w10.drawn + 1 } [R] := Has0.drew hH11 _
      refine Rest.phaseA (fun w_ => Has E w_ [R]) 0 8 8 rfl (by decide) (by kernel_rfl) ?_
      refine a_op 0 rfl (by kernel_rfl) (fun w_ h_ => o_move (v := va) e8_0 ⟨rfl, rfl⟩) ?_
      refine a_op 1 rfl (by kernel_rfl) (fun w_ h_ => o_move (v := (.int .i64 (k : Int))) e8_5 ⟨rfl, rfl⟩) ?_
      obtain ⟨x22, hx23⟩ : ∃ x_, a[((k : Int)).toNat]? = some x_ := get_some (by omega)
      obtain ⟨b19, o20, hc21, ho24⟩ := ix_ex1 Try.underlying54 ti3 hva (by omega) hx23
      refine a_op 2 rfl (by kernel_rfl) (fun w_ h_ => ho24 rfl rfl ⟨rfl, rfl⟩) ?_
      refine a_op 3 rfl (by kernel_rfl) (fun w_ h_ => o_load1 (v := (.int .i64 x22)) Try.underlying3 rfl rfl h_ (seg_sub 0 rfl) hc21 ⟨rfl, rfl⟩) ?_
      refine a_op 4 rfl (by kernel_rfl) (fun w_ h_ => o_move (v := vb) e8_1 ⟨rfl, rfl⟩) ?_
      refine a_op 5 rfl (by kernel_rfl) (fun w_ h_ => o_move (v := (.int .i64 (k : Int))) e8_5 ⟨rfl, rfl⟩) ?_
      obtain ⟨x28, hx29⟩ : ∃ x_, b[((k : Int)).toNat]? = some x_ := get_some (by omega)
      obtain ⟨b25, o26, hc27, ho30⟩ := ix_ex1 Try.underlying54 ti3 hvb (by omega) hx29
      refine a_op 6 rfl (by kernel_rfl) (fun w_ h_ => ho30 rfl rfl ⟨rfl, rfl⟩) ?_
      refine a_op 7 rfl (by kernel_rfl) (fun w_ h_ => o_load1 (v := (.int .i64 x28)) Try.underlying3 rfl rfl h_ (seg_sub 0 rfl) hc27 ⟨rfl, rfl⟩) ?_
      refine a_done (by kernel_rfl) hH18 ?_
      refine r_op 8 rfl (by kernel_rfl) (o_neq (a := x22) (b := x28) rfl rfl ?_)
      refine Rest.done (by kernel_rfl) ?_
      refine t_norm (hK17 _ _ ?_)
      refine c_cond rfl (fun h31 => ?_) (fun h31 => ?_)
      · -- x22 ≠ x28
        refine wp_seq_k fun K32 hK32 => ?_
        refine c_region ?_
        refine s_op (o_assign (v := (.bool false)) rfl ?_)
        refine s_nil ?_
        refine t_norm (hK32 _ _ ?_)
        refine wp_ret ?_
        refine b_ret (t_ret (t_ret (b_ret (t_ret (c_ret1 Try.results49  (v := (.bool false)) rfl ?_)))))
        have e : a ≠ b := fun e => by
          subst e
          have e1 := hx23.symm.trans hx29
          cases e1
          omega
        exact ⟨by rw [decide_eq_false e], hH18⟩
      · -- not: x22 ≠ x28
        refine wp_skip ?_
        refine b_norm ?_
        refine t_norm (hK16 _ _ ?_)
        refine c_region ?_
        refine s_op (o_move (v := (.int .i64 (k : Int))) e8_5 ?_)
        refine s_op (o_add (a := (k : Int)) (b := 1) rfl rfl (w64 (by omega) (by omega)) ?_)
        refine s_op (o_assign (v := (.int .i64 ((k : Int) + 1))) rfl ?_)
        refine s_nil ?_
        refine t_norm ⟨a.length - (k + 1), _, rfl, ?_, ?_⟩
        · omega
        · exact ⟨(k + 1), rfl, hH18, (by omega), (same_step he (by simpa using hx23) (by simpa using hx29) (by omega)), e8_0, e8_1, rfl, e8_10⟩
    · -- not: (k : Int) < ((a.length : Nat) : Int)
      refine wp_exit ?_
      refine t_exit (t_exit (x_in (?_)))
      refine t_norm (hK6 _ _ ?_)
      refine wp_seq_k fun K33 hK33 => ?_
      refine c_region ?_
      refine s_op (o_assign (v := (.bool true)) rfl ?_)
      refine s_nil ?_
      refine t_norm (hK33 _ _ ?_)
      refine wp_ret ?_
      refine c_ret1 Try.results49  (v := (.bool true)) rfl ?_
      have e : a = b := List.ext_getElem? fun j => by
        rcases Nat.lt_or_ge j k with g | g
        · exact he j g
        · rw [List.getElem?_eq_none (by omega), List.getElem?_eq_none (by omega)]
      exact ⟨by rw [decide_eq_true e], hH11⟩
set_option maxHeartbeats 4000000 in
theorem great14_c {E w : World} {R : List Hp} {v_l : Value} {l : List LAct}  (hH : Has E w [R]) (h_l : Sl R 5 v_l l.length (l.flatMap laC)) (hok : ∀ a ∈ l, LaOk R a) :
    Calls Try.prog 36 #[v_l] w fun e w' => ∃ (gb : Bool), e = .returned (.bool gb) ∧ (gb = false → LFine l) ∧ Has E w' [R] := by
  have hn_ := h_l.le
  have hml := fun (x : LAct) (hx : x ∈ l) => (hok x hx).le
  refine c_enter (args := [v_l]) Try.func36 rfl Try.ntmps36 (by simp) ?_
  refine wp_seq_k fun K1 hK1 => ?_
  refine c_region ?_
  refine s_op (o_assign (v := (.bool false)) rfl ?_)
  refine s_nil ?_
  refine t_norm (hK1 _ _ ?_)
  refine wp_seq_k fun K2 hK2 => ?_
  refine wp_seq_k fun K3 hK3 => ?_
  refine c_region ?_
  refine s_op (o_move (v := v_l) rfl ?_)
  refine s_op (o_lenS Try.underlying66 rfl h_l ?_)
  refine s_op (o_gtr (a := ((l.length : Nat) : Int)) (b := 60) rfl rfl ?_)
  refine s_nil ?_
  refine t_norm (hK3 _ _ ?_)
  refine c_cond rfl (fun h4 => ?_) (fun h4 => ?_)
  · -- 60 < ((l.length : Nat) : Int)
    refine wp_seq_k fun K5 hK5 => ?_
    refine c_region ?_
    refine s_op (o_assign (v := (.bool true)) rfl ?_)
    refine s_nil ?_
    refine t_norm (hK5 _ _ ?_)
    refine wp_ret ?_
    refine t_ret (c_ret1 Try.results36  (v := (.bool true)) rfl ?_)
    exact ⟨true, rfl, (fun g => by cases g), hH⟩
  · -- not: 60 < ((l.length : Nat) : Int)
    refine wp_skip ?_
    refine t_norm (hK2 _ _ ?_)
    refine wp_seq_k fun K6 hK6 => ?_
    refine wp_seq_k fun K7 hK7 => ?_
    refine c_region ?_
    refine s_op (o_assign (v := (.int .i64 0)) rfl ?_)
    refine s_nil ?_
    refine t_norm (hK7 _ _ ?_)
    refine wp_block ?_
    let I9 : Nat → (Nat → Value) → World → Prop := fun n__ r__ w__ => ∃ (k : Nat), n__ = l.length - k ∧ Has E w__ [R] ∧ (k ≤ l.length) ∧ (∀ a ∈ l.take k, LFin a) ∧ r__ 0 = v_l ∧ r__ 3 = (.int .i64 (k : Int)) ∧ r__ 6 = (.bool (decide (60 < ((l.length : Nat) : Int))))
    refine c_loop I9 _ ⟨0, rfl, hH, Nat.zero_le _, (by simp), rfl, rfl, rfl⟩ ?_
    rintro n_ r12 w10 ⟨k, rfl, hH11, hk, hfn, e8_0, e8_3, e8_6⟩
    refine wp_seq_k fun K13 hK13 => ?_
    refine wp_seq_k fun K14 hK14 => ?_
    refine c_region ?_
    refine s_op (o_move (v := (.int .i64 (k : Int))) e8_3 ?_)
    refine s_op (o_move (v := v_l) e8_0 ?_)
    refine s_op (o_lenS Try.underlying66 rfl h_l ?_)
    refine s_op (o_lss (a := (k : Int)) (b := ((l.length : Nat) : Int)) rfl rfl ?_)
    refine s_nil ?_
    refine t_norm (hK14 _ _ ?_)
    refine c_cond rfl (fun h15 => ?_) (fun h15 => ?_)
    · -- (k : Int) < ((l.length : Nat) : Int)
      refine wp_skip ?_
      refine t_norm (hK13 _ _ ?_)
      refine wp_seq_k fun K16 hK16 => ?_
      refine wp_block ?_
      refine wp_seq_k fun K17 hK17 => ?_
      refine c_region ?_
      refine s_op (o_move (v := v_l) e8_0 ?_)
      refine s_op (o_move (v := (.int .i64 (k : Int))) e8_3 ?_)
      obtain ⟨x21, hx22⟩ : ∃ x_, l[((k : Int)).toNat]? = some x_ := get_some (by omega)
      refine s_op (o_indexF laC_len Try.underlying66 ti71 rfl h_l rfl rfl (by omega) hx22 fun b18 o19 hc20 => ?_)
      refine s_op (o_fieldAddr (k := o19 + 2) (fun _ => by kernel_rfl) rfl ?_)
      refine s_op (o_load1 (v := (S x21.key)) Try.underlying9 rfl rfl hH11 (seg_sub 0 rfl) (CellsAt.field (k := 2) (ds := [(S x21.key)]) hc20 rfl) ?_)
      refine s_op (o_slen Try.underlying9 rfl ?_)
      refine s_op (o_gtr (a := (x21.key.length : Int)) (b := 100) rfl rfl ?_)
      refine s_op (o_move (v := (.bool (decide (100 < (x21.key.length : Int))))) rfl ?_)
      by_cases h23 : 100 < (x21.key.length : Int)
      · -- 100 < (x21.key.length : Int)
        refine s_off (b' := true) 20 rfl (congrArg Value.bool (decide_eq_true h23)) rfl ?_
        refine s_off (b' := true) 20 rfl (congrArg Value.bool (decide_eq_true h23)) rfl ?_
        refine s_off (b' := true) 20 rfl (congrArg Value.bool (decide_eq_true h23)) rfl ?_
        refine s_off (b' := true) 20 rfl (congrArg Value.bool (decide_eq_true h23)) rfl ?_
        refine s_off (b' := true) 20 rfl (congrArg Value.bool (decide_eq_true h23)) rfl ?_
        refine s_off (b' := true) 20 rfl (congrArg Value.bool (decide_eq_true h23)) rfl ?_
        refine s_off (b' := true) 20 rfl (congrArg Value.bool (decide_eq_true h23)) rfl ?_
        refine s_op (o_pick_t (u := (.bool true)) ((rfl : _ = _).trans (congrArg Value.bool (decide_eq_true h23))) rfl ?_)
        refine s_nil ?_
        refine t_norm (hK17 _ _ ?_)
        refine c_true rfl rfl ?_
        refine wp_seq_k fun K24 hK24 => ?_
        refine c_region ?_
        refine s_op (o_assign (v := (.bool true)) rfl ?_)
        refine s_nil ?_
        refine t_norm (hK24 _ _ ?_)
        refine wp_ret ?_
        refine b_ret (t_ret (t_ret (b_ret (t_ret (c_ret1 Try.results36  (v := (.bool true)) rfl ?_)))))
        exact ⟨true, rfl, (fun g => by cases g), hH11⟩
      · -- not: 100 < (x21.key.length : Int)
        refine s_on 20 rfl (congrArg Value.bool (decide_eq_false h23)) (o_move (v := v_l) e8_0 ?_)
        refine s_on 20 rfl (congrArg Value.bool (decide_eq_false h23)) (o_move (v := (.int .i64 (k : Int))) e8_3 ?_)
        refine s_on 20 rfl (congrArg Value.bool (decide_eq_false h23)) (o_indexF laC_len Try.underlying66 ti71 rfl h_l rfl rfl (by omega) hx22 fun b25 o26 hc27 => ?_)
        refine s_on 20 rfl (congrArg Value.bool (decide_eq_false h23)) (o_fieldAddr (k := o26 + 4) (fun _ => by kernel_rfl) rfl ?_)
        refine s_on 20 rfl (congrArg Value.bool (decide_eq_false h23)) (o_load1 (v := x21.mv) Try.underlying54 rfl rfl hH11 (seg_sub 0 rfl) (CellsAt.field (k := 4) (ds := [x21.mv]) hc27 rfl) ?_)
        refine s_on 20 rfl (congrArg Value.bool (decide_eq_false h23)) (o_lenS Try.underlying54 rfl (hok _ (List.mem_of_getElem? hx22)) ?_)
        refine s_on 20 rfl (congrArg Value.bool (decide_eq_false h23)) (o_gtr (a := ((x21.more.length : Nat) : Int)) (b := 10) rfl rfl ?_)
        refine s_op (o_pick_f (u := (.bool (decide (10 < ((x21.more.length : Nat) : Int))))) ((rfl : _ = _).trans (congrArg Value.bool (decide_eq_false h23))) rfl ?_)
        refine s_nil ?_
        refine t_norm (hK17 _ _ ?_)
        refine c_cond rfl (fun h28 => ?_) (fun h28 => ?_)
        · -- 10 < ((x21.more.length : Nat) : Int)
          refine wp_seq_k fun K29 hK29 => ?_
          refine c_region ?_
          refine s_op (o_assign (v := (.bool true)) rfl ?_)
          refine s_nil ?_
          refine t_norm (hK29 _ _ ?_)
          refine wp_ret ?_
          refine b_ret (t_ret (t_ret (b_ret (t_ret (c_ret1 Try.results36  (v := (.bool true)) rfl ?_)))))
          exact ⟨true, rfl, (fun g => by cases g), hH11⟩
        · -- not: 10 < ((x21.more.length : Nat) : Int)
          refine wp_skip ?_
          refine b_norm ?_
          refine t_norm (hK16 _ _ ?_)
          refine c_region ?_
          refine s_op (o_move (v := (.int .i64 (k : Int))) e8_3 ?_)
          refine s_op (o_add (a := (k : Int)) (b := 1) rfl rfl (w64 (by omega) (by omega)) ?_)
          refine s_op (o_assign (v := (.int .i64 ((k : Int) + 1))) rfl ?_)
          refine s_nil ?_
          refine t_norm ⟨l.length - (k + 1), _, rfl, ?_, ?_⟩
          · omega
          · exact ⟨(k + 1), rfl, hH11, (by omega), (LFine.snoc hfn (show l[k]? = some _ from hx22) ⟨by omega, by omega⟩), e8_0, rfl, e8_6⟩
    · -- not: (k : Int) < ((l.length : Nat) : Int)
      refine wp_exit ?_
      refine t_exit (t_exit (x_in (?_)))
      refine t_norm (hK6 _ _ ?_)
      refine wp_seq_k fun K30 hK30 => ?_
      refine c_region ?_
      refine s_op (o_assign (v := (.bool false)) rfl ?_)
      refine s_nil ?_
      refine t_norm (hK30 _ _ ?_)
      refine wp_ret ?_
      refine c_ret1 Try.results36  (v := (.bool false)) rfl ?_
      have e_ : k = l.length := by omega
      rw [e_, List.take_of_length_le (Nat.le_refl _)] at hfn
      exact ⟨false, rfl, (fun _ => ⟨by omega, hfn⟩), hH11⟩
set_option maxHeartbeats 4000000 in
theorem awake14_c {E w : World} {R : List Hp}   (hH : Has E w [R]) :
    Calls Try.prog 37 #[] w fun e w' => e = .returned (.bool true) ∧ Has E w' [R] := by
  refine c_enter (args := []) Try.func37 rfl Try.ntmps37 (by simp) ?_
  refine wp_seq_k fun K1 hK1 => ?_
  refine c_region ?_
  refine s_op (o_assign (v := (.bool false)) rfl ?_)
  refine s_nil ?_
  refine t_norm (hK1 _ _ ?_)
  refine wp_seq_k fun K2 hK2 => ?_
  refine c_region ?_
  refine s_op (o_callf (vs := #[]) ca38 rfl (args0) (new_c hH.all ) ?_)
  rintro _ w8 ⟨b3, sg4, rfl, hd5, hX6⟩
  refine ⟨_, rfl, ?_⟩
  have hH7 : Has E w8 [sg4, R] := hX6.of_all1
  refine s_op (o_assign (v := (.pointer (some ⟨b3, 0, none⟩))) rfl ?_)
  refine s_nil ?_
  refine t_norm (hK2 _ _ ?_)
  refine wp_seq_k fun K9 hK9 => ?_
  refine c_region ?_
  refine s_op (o_move (v := (.pointer (some ⟨b3, 0, none⟩))) rfl ?_)
  refine s_op (o_sight (v := (.agg #[(S [97]), (.bool false)])) (fun _ => by kernel_rfl) ?_)
  refine s_op (o_callf (vs := #[(.pointer (some ⟨b3, 0, none⟩)), (.int .i64 1), (.agg #[(S [97]), (.bool false)])]) ca39 rfl (args3 rfl rfl rfl) (ask_c (v := (⟨[]⟩ : TabS)) (o := 1) (k := [97]) (wr := false) hH7.all1 hd5 (LkB.nil.hkl) (LkB.nil.hkn (by omega)) (LkB.nil.sz (by omega))) ?_)
  rintro _ w14 ⟨sg10, rfl, hd11, hX12⟩
  refine ⟨_, rfl, ?_⟩
  have hH13 : Has E w14 [sg10, R] := hX12.of_all1
  have hb15 := LkB.nil.ask (o := 1) (k := [97]) (wr := false) (by decide)
  have hs16 := LkS.nil.ask (o := 1) (k := [97]) (wr := false)
  have hd17 := ask_nodup (o := 1) (k := [97]) (wr := false) (show (([] : Tab).map (·.1)).Nodup from List.nodup_nil)
  have hd18 : TbAt b3 sg10 (⟨awT1⟩ : TabS) := by have h9_ := hd11; simp only [aw1, aw2, aw3, aw4, aw5] at h9_; exact h9_
  have hb19 := hb15
  simp only [aw1, aw2, aw3, aw4, aw5] at hb19
  have hd20 := hd17
  simp only [aw1, aw2, aw3, aw4, aw5] at hd20
  have hs21 := hs16
  simp only [aw1, aw2, aw3, aw4, aw5] at hs21
  refine s_op (o_assign (v := (.int .i64 ((askS (⟨[]⟩ : TabS).keys 1 [97] false).2))) rfl ?_)
  refine s_nil ?_
  refine t_norm (hK9 _ _ ?_)
  refine wp_seq_k fun K22 hK22 => ?_
  refine c_region ?_
  refine s_op (o_move (v := (.pointer (some ⟨b3, 0, none⟩))) rfl ?_)
  refine s_op (o_sight (v := (.agg #[(S [97]), (.bool true)])) (fun _ => by kernel_rfl) ?_)
  refine s_op (o_callf (vs := #[(.pointer (some ⟨b3, 0, none⟩)), (.int .i64 2), (.agg #[(S [97]), (.bool true)])]) ca39 rfl (args3 rfl rfl rfl) (ask_c (v := (⟨awT1⟩ : TabS)) (o := 2) (k := [97]) (wr := true) hH13.all1 hd18 (hb19.hkl) (hb19.hkn (by omega)) (hb19.sz (by omega))) ?_)
  rintro _ w27 ⟨sg23, rfl, hd24, hX25⟩
  refine ⟨_, rfl, ?_⟩
  have hH26 : Has E w27 [sg23, R] := hX25.of_all1
  have hb28 := hb19.ask (o := 2) (k := [97]) (wr := true) (by decide)
  have hs29 := hs21.ask (o := 2) (k := [97]) (wr := true)
  have hd30 := ask_nodup (o := 2) (k := [97]) (wr := true) hd20
  have hd31 : TbAt b3 sg23 (⟨awT2⟩ : TabS) := by have h9_ := hd24; simp only [aw1, aw2, aw3, aw4, aw5] at h9_; exact h9_
  have hb32 := hb28
  simp only [aw1, aw2, aw3, aw4, aw5] at hb32
  have hd33 := hd30
  simp only [aw1, aw2, aw3, aw4, aw5] at hd33
  have hs34 := hs29
  simp only [aw1, aw2, aw3, aw4, aw5] at hs34
  refine s_op (o_assign (v := (.int .i64 ((askS (⟨awT1⟩ : TabS).keys 2 [97] true).2))) rfl ?_)
  refine s_nil ?_
  refine t_norm (hK22 _ _ ?_)
  refine wp_seq_k fun K35 hK35 => ?_
  refine c_region ?_
  refine s_op (o_move (v := (.pointer (some ⟨b3, 0, none⟩))) rfl ?_)
  refine s_op (o_sight (v := (.agg #[(S [97]), (.bool false)])) (fun _ => by kernel_rfl) ?_)
  refine s_op (o_callf (vs := #[(.pointer (some ⟨b3, 0, none⟩)), (.int .i64 3), (.agg #[(S [97]), (.bool false)])]) ca39 rfl (args3 rfl rfl rfl) (ask_c (v := (⟨awT2⟩ : TabS)) (o := 3) (k := [97]) (wr := false) hH26.all1 hd31 (hb32.hkl) (hb32.hkn (by omega)) (hb32.sz (by omega))) ?_)
  rintro _ w40 ⟨sg36, rfl, hd37, hX38⟩
  refine ⟨_, rfl, ?_⟩
  have hH39 : Has E w40 [sg36, R] := hX38.of_all1
  have hb41 := hb32.ask (o := 3) (k := [97]) (wr := false) (by decide)
  have hs42 := hs34.ask (o := 3) (k := [97]) (wr := false)
  have hd43 := ask_nodup (o := 3) (k := [97]) (wr := false) hd33
  have hd44 : TbAt b3 sg36 (⟨awT3⟩ : TabS) := by have h9_ := hd37; simp only [aw1, aw2, aw3, aw4, aw5] at h9_; exact h9_
  have hb45 := hb41
  simp only [aw1, aw2, aw3, aw4, aw5] at hb45
  have hd46 := hd43
  simp only [aw1, aw2, aw3, aw4, aw5] at hd46
  have hs47 := hs42
  simp only [aw1, aw2, aw3, aw4, aw5] at hs47
  refine s_op (o_assign (v := (.int .i64 ((askS (⟨awT2⟩ : TabS).keys 3 [97] false).2))) rfl ?_)
  refine s_nil ?_
  refine t_norm (hK35 _ _ ?_)
  refine wp_seq_k fun K48 hK48 => ?_
  refine c_region ?_
  refine s_op (o_move (v := (.int .i64 ((askS (⟨[]⟩ : TabS).keys 1 [97] false).2))) rfl ?_)
  refine s_op (o_eql (a := (askS (⟨[]⟩ : TabS).keys 1 [97] false).2) (b := 0) rfl rfl ?_)
  refine s_op (o_move (v := (.bool (decide ((askS (⟨[]⟩ : TabS).keys 1 [97] false).2 = 0)))) rfl ?_)
  by_cases h49 : (askS (⟨[]⟩ : TabS).keys 1 [97] false).2 = 0
  · -- (askS (⟨[]⟩ : TabS).keys 1 [97] false).2 = 0
    refine s_on 17 rfl (congrArg Value.bool (decide_eq_true h49)) (o_move (v := (.int .i64 ((askS (⟨awT1⟩ : TabS).keys 2 [97] true).2))) rfl ?_)
    refine s_on 17 rfl (congrArg Value.bool (decide_eq_true h49)) (o_eql (a := (askS (⟨awT1⟩ : TabS).keys 2 [97] true).2) (b := 10) rfl rfl ?_)
    refine s_op (o_pick_t (u := (.bool (decide ((askS (⟨awT1⟩ : TabS).keys 2 [97] true).2 = 10)))) ((rfl : _ = _).trans (congrArg Value.bool (decide_eq_true h49))) rfl ?_)
    refine s_op (o_move (v := (.bool (decide ((askS (⟨awT1⟩ : TabS).keys 2 [97] true).2 = 10)))) rfl ?_)
    by_cases h50 : (askS (⟨awT1⟩ : TabS).keys 2 [97] true).2 = 10
    · -- (askS (⟨awT1⟩ : TabS).keys 2 [97] true).2 = 10
      refine s_on 21 rfl (congrArg Value.bool (decide_eq_true h50)) (o_move (v := (.int .i64 ((askS (⟨awT2⟩ : TabS).keys 3 [97] false).2))) rfl ?_)
      refine s_on 21 rfl (congrArg Value.bool (decide_eq_true h50)) (o_eql (a := (askS (⟨awT2⟩ : TabS).keys 3 [97] false).2) (b := 10) rfl rfl ?_)
      refine s_op (o_pick_t (u := (.bool (decide ((askS (⟨awT2⟩ : TabS).keys 3 [97] false).2 = 10)))) ((rfl : _ = _).trans (congrArg Value.bool (decide_eq_true h50))) rfl ?_)
      refine s_op (o_move (v := (.bool (decide ((askS (⟨awT2⟩ : TabS).keys 3 [97] false).2 = 10)))) rfl ?_)
      by_cases h51 : (askS (⟨awT2⟩ : TabS).keys 3 [97] false).2 = 10
      · -- (askS (⟨awT2⟩ : TabS).keys 3 [97] false).2 = 10
        refine s_on 25 rfl (congrArg Value.bool (decide_eq_true h51)) (o_move (v := (.pointer (some ⟨b3, 0, none⟩))) rfl ?_)
        refine s_on 25 rfl (congrArg Value.bool (decide_eq_true h51)) (o_buildSlice (ps := #[(0, (.int .i64 1))]) (cells := #[(.int .i64 1)]) Try.underlying54 ti3 (by decide) (parts1 rfl) (by kernel_rfl) hH39 fun b52 w53 hH54 => ?_)
        refine s_on 25 rfl (congrArg Value.bool (decide_eq_true h51)) (o_callf (vs := #[(.pointer (some ⟨b3, 0, none⟩)), (.slice (some ⟨b52, 0, none⟩) 1 1)]) ca41 rfl (args2 rfl rfl) (free_t (v := (⟨awT3⟩ : TabS)) (ow := [1]) (hH54.front 1 rfl).all1 hd44 ((sl_lit (f := iV) (l := [1]) rfl rfl (by simp)).mono (seg_sub 0 rfl)) (hb45.hkl) (hb45.hkn (by omega)) (hb45.sz (by omega))) ?_)
        rintro _ w62 ⟨v55, s56, sg58, rfl, ho57, hd59, hX60⟩
        refine ⟨_, rfl, ?_⟩
        have hH61 : Has E w62 [s56, sg58, [Hp.one b52 (.cells #[(.int .i64 1)] 3 (0, 0))], R] := hX60.of_all2
        have hb63 := hb45.leave hd46 (all := true) (ow := [1])
        have hs64 := hs47.leave hd46 (all := true) (ow := [1])
        have hd65 := leave_nodup hd46 (all := true) (ow := [1])
        have hd66 : TbAt b3 sg58 (⟨awT4⟩ : TabS) := by have h9_ := hd59; simp only [aw1, aw2, aw3, aw4, aw5] at h9_; exact h9_
        have hb67 := hb63
        simp only [aw1, aw2, aw3, aw4, aw5] at hb67
        have hd68 := hd65
        simp only [aw1, aw2, aw3, aw4, aw5] at hd68
        have hs69 := hs64
        simp only [aw1, aw2, aw3, aw4, aw5] at hs69
        refine s_on 25 rfl (congrArg Value.bool (decide_eq_true h51)) (o_buildSlice (ps := #[(0, (.int .i64 2))]) (cells := #[(.int .i64 2)]) Try.underlying54 ti3 (by decide) (parts1 rfl) (by kernel_rfl) hH61 fun b70 w71 hH72 => ?_)
        refine s_on 25 rfl (congrArg Value.bool (decide_eq_true h51)) (o_callf (vs := #[v55, (.slice (some ⟨b70, 0, none⟩) 1 1)]) ca49 rfl (args2 rfl rfl) (same_c hH72.all (a := ((leaveS true [1] (⟨awT3⟩ : TabS).keys).2)) (b := [2]) (ho57.sl.mono (seg_sub 1 rfl)) ((sl_lit (f := iV) (l := [2]) rfl rfl (by simp)).mono (seg_sub 0 rfl))) ?_)
        rintro _ w75 ⟨rfl, hX73⟩
        refine ⟨_, rfl, ?_⟩
        have hH74 := hX73.of_all
        refine s_op (o_pick_t (u := (.bool (decide (((leaveS true [1] (⟨awT3⟩ : TabS).keys).2) = [2])))) ((rfl : _ = _).trans (congrArg Value.bool (decide_eq_true h51))) rfl ?_)
        refine s_op (o_move (v := (.bool (decide (((leaveS true [1] (⟨awT3⟩ : TabS).keys).2) = [2])))) rfl ?_)
        by_cases h76 : ((leaveS true [1] (⟨awT3⟩ : TabS).keys).2) = [2]
        · -- ((leaveS true [1] (⟨awT3⟩ : TabS).keys).2) = [2]
          refine s_on 32 rfl (congrArg Value.bool (decide_eq_true h76)) (o_move (v := (.pointer (some ⟨b3, 0, none⟩))) rfl ?_)
          refine s_on 32 rfl (congrArg Value.bool (decide_eq_true h76)) (o_buildSlice (ps := #[(0, (.int .i64 2))]) (cells := #[(.int .i64 2)]) Try.underlying54 ti3 (by decide) (parts1 rfl) (by kernel_rfl) hH74 fun b77 w78 hH79 => ?_)
          refine s_on 32 rfl (congrArg Value.bool (decide_eq_true h76)) (o_callf (vs := #[(.pointer (some ⟨b3, 0, none⟩)), (.slice (some ⟨b77, 0, none⟩) 1 1)]) ca41 rfl (args2 rfl rfl) (free_t (v := (⟨awT4⟩ : TabS)) (ow := [2]) (hH79.front 3 rfl).all1 hd66 ((sl_lit (f := iV) (l := [2]) rfl rfl (by simp)).mono (seg_sub 0 rfl)) (hb67.hkl) (hb67.hkn (by omega)) (hb67.sz (by omega))) ?_)
          rintro _ w87 ⟨v80, s81, sg83, rfl, ho82, hd84, hX85⟩
          refine ⟨_, rfl, ?_⟩
          have hH86 : Has E w87 [s81, sg83, [Hp.one b77 (.cells #[(.int .i64 2)] 3 (0, 0))], [Hp.one b70 (.cells #[(.int .i64 2)] 3 (0, 0))], s56, [Hp.one b52 (.cells #[(.int .i64 1)] 3 (0, 0))], R] := hX85.of_all2
          have hb88 := hb67.leave hd68 (all := true) (ow := [2])
          have hs89 := hs69.leave hd68 (all := true) (ow := [2])
          have hd90 := leave_nodup hd68 (all := true) (ow := [2])
          have hd91 : TbAt b3 sg83 (⟨awT5⟩ : TabS) := by have h9_ := hd84; simp only [aw1, aw2, aw3, aw4, aw5] at h9_; exact h9_
          have hb92 := hb88
          simp only [aw1, aw2, aw3, aw4, aw5] at hb92
          have hd93 := hd90
          simp only [aw1, aw2, aw3, aw4, aw5] at hd93
          have hs94 := hs89
          simp only [aw1, aw2, aw3, aw4, aw5] at hs94
          refine s_on 32 rfl (congrArg Value.bool (decide_eq_true h76)) (o_buildSlice (ps := #[(0, (.int .i64 3))]) (cells := #[(.int .i64 3)]) Try.underlying54 ti3 (by decide) (parts1 rfl) (by kernel_rfl) hH86 fun b95 w96 hH97 => ?_)
          refine s_on 32 rfl (congrArg Value.bool (decide_eq_true h76)) (o_callf (vs := #[v80, (.slice (some ⟨b95, 0, none⟩) 1 1)]) ca49 rfl (args2 rfl rfl) (same_c hH97.all (a := ((leaveS true [2] (⟨awT4⟩ : TabS).keys).2)) (b := [3]) (ho82.sl.mono (seg_sub 1 rfl)) ((sl_lit (f := iV) (l := [3]) rfl rfl (by simp)).mono (seg_sub 0 rfl))) ?_)
          rintro _ w100 ⟨rfl, hX98⟩
          refine ⟨_, rfl, ?_⟩
          have hH99 := hX98.of_all
          refine s_op (o_pick_t (u := (.bool (decide (((leaveS true [2] (⟨awT4⟩ : TabS).keys).2) = [3])))) ((rfl : _ = _).trans (congrArg Value.bool (decide_eq_true h76))) rfl ?_)
          refine s_op (o_move (v := (.bool (decide (((leaveS true [2] (⟨awT4⟩ : TabS).keys).2) = [3])))) rfl ?_)
          by_cases h101 : ((leaveS true [2] (⟨awT4⟩ : TabS).keys).2) = [3]
          · -- ((leaveS true [2] (⟨awT4⟩ : TabS).keys).2) = [3]
            refine s_on 39 rfl (congrArg Value.bool (decide_eq_true h101)) (o_move (v := (.pointer (some ⟨b3, 0, none⟩))) rfl ?_)
            refine s_on 39 rfl (congrArg Value.bool (decide_eq_true h101)) (o_callf (vs := #[(.pointer (some ⟨b3, 0, none⟩)), (.int .i64 3)]) ca43 rfl (args2 rfl rfl) (holds_c (v := (⟨awT5⟩ : TabS)) (o := 3) hH99.all (hd91.rd.mono (seg_sub 2 rfl)) (hb92.hkl) (hb92.hkn (by omega))) ?_)
            rintro _ w107 ⟨v102, s103, rfl, ho104, hX105⟩
            refine ⟨_, rfl, ?_⟩
            have hH106 : Has E w107 [s103, [Hp.one b95 (.cells #[(.int .i64 3)] 3 (0, 0))], s81, sg83, [Hp.one b77 (.cells #[(.int .i64 2)] 3 (0, 0))], [Hp.one b70 (.cells #[(.int .i64 2)] 3 (0, 0))], s56, [Hp.one b52 (.cells #[(.int .i64 1)] 3 (0, 0))], R] := hX105.of_all1
            refine s_on 39 rfl (congrArg Value.bool (decide_eq_true h101)) (o_lenS Try.underlying78 rfl ho104.sl ?_)
            refine s_on 39 rfl (congrArg Value.bool (decide_eq_true h101)) (o_eql (a := (((holdsC (⟨awT5⟩ : TabS).keys 3).length : Nat) : Int)) (b := 1) rfl rfl ?_)
            refine s_op (o_pick_t (u := (.bool (decide ((((holdsC (⟨awT5⟩ : TabS).keys 3).length : Nat) : Int) = 1)))) ((rfl : _ = _).trans (congrArg Value.bool (decide_eq_true h101))) rfl ?_)
            refine s_op (o_assign (v := (.bool (decide ((((holdsC (⟨awT5⟩ : TabS).keys 3).length : Nat) : Int) = 1)))) rfl ?_)
            refine s_nil ?_
            refine t_norm (hK48 _ _ ?_)
            refine wp_ret ?_
            refine c_ret1 Try.results37  (v := (.bool (decide ((((holdsC (⟨awT5⟩ : TabS).keys 3).length : Nat) : Int) = 1)))) rfl ?_
            have hH108 : Has E w107 [R] := (hH106.front 8 rfl).first 1 rfl
            exact ⟨by first | rfl | (simp only [aw1, aw2, aw3, aw4, aw5, aw6]; rfl), hH108⟩
          · -- not: ((leaveS true [2] (⟨awT4⟩ : TabS).keys).2) = [3]
            exact absurd (by simp only [aw1, aw2, aw3, aw4, aw5, aw6]; try rfl) h101
        · -- not: ((leaveS true [1] (⟨awT3⟩ : TabS).keys).2) = [2]
          exact absurd (by simp only [aw1, aw2, aw3, aw4, aw5, aw6]; try rfl) h76
      · -- not: (askS (⟨awT2⟩ : TabS).keys 3 [97] false).2 = 10
        exact absurd (by simp only [aw1, aw2, aw3, aw4, aw5, aw6]; try rfl) h51
    · -- not: (askS (⟨awT1⟩ : TabS).keys 2 [97] true).2 = 10
      exact absurd (by simp only [aw1, aw2, aw3, aw4, aw5, aw6]; try rfl) h50
  · -- not: (askS (⟨[]⟩ : TabS).keys 1 [97] false).2 = 0
    exact absurd (by simp only [aw1, aw2, aw3, aw4, aw5, aw6]; try rfl) h49
end Go.Q
namespace Go.Q
theorem S_beq' (a b : List UInt8) : ((⟨a.toArray⟩ : ByteArray).toList == (⟨b.toArray⟩ : ByteArray).toList) = decide (a = b) := by
  rw [bytes_toList, bytes_toList]
  by_cases h : a = b
  · subst h; simp
  · rw [decide_eq_false h]; simpa using h
theorem int_beq' (a b : Int) : (a == b) = decide (a = b) := by
  by_cases h : a = b
  · subst h; simp
  · rw [decide_eq_false h]; simpa using h
theorem bool_beq' (a b : Bool) : (a == b) = decide (a = b) := by cases a <;> cases b <;> rfl
theorem part1 {P : Program} {t : TypeId} {d : TypeDesc} (ht : P.underlying t = some d) (hd : aggB d = false) {xs : Array Value} {o : Nat} {v : Value} (hv : xs[o]? = some v) (w : World) : (part t xs o).run P w = .ok v w := by
  unfold part
  rw [Sem.run_bind, run_isAgg ht, hd]
  simp [hv]
theorem partN {P : Program} {t : TypeId} {d : TypeDesc} {z : Value} {sz by_ : Nat} (ht : P.underlying t = some d) (hd : aggB d = true) (hi : TI P t z sz by_) {xs ys : Array Value} {o : Nat} (hv : xs.extract o (o + sz) = ys) (w : World) : (part t xs o).run P w = .ok (.agg ys) w := by
  unfold part
  rw [Sem.run_bind, run_isAgg ht, hd]
  simp only [Result.andThen_ok, if_true, Sem.run_bind, hi.size, Sem.run_pure, hv]
theorem eqC_nil {P : Program} {d : Nat} {xs ys : Array Value} {w : World} : (Op.eqFields d xs ys []).run P w = .ok true w := rfl
theorem eqC_cons {P : Program} {d : Nat} {xs ys : Array Value} {f : Field} {fs : List Field} {a b : Value} {r r' : Bool} {w : World} {ft fo : Nat} (h : (f.type, f.offset, f.name == "_") = (ft, fo, false)) (ha : (part ft xs fo).run P w = .ok a w) (hb : (part ft ys fo).run P w = .ok b w)
    (he : (Op.equalIn d ft a b).run P w = .ok r w) (hk : (Op.eqFields d xs ys fs).run P w = .ok r' w) : (Op.eqFields d xs ys (f :: fs)).run P w = .ok (r && r') w := by
  simp only [Prod.mk.injEq] at h
  obtain ⟨rfl, rfl, hn⟩ := h
  have hn' : f.name ≠ "_" := by simpa using hn
  rw [Op.eqFields, if_pos hn']
  simp only [Sem.run_bind, ha, hb, he, Result.andThen_ok]
  cases r
  · simp
  · simpa using hk
theorem eqC_fields {P : Program} {d : Nat} {xs ys : Array Value} {r : Bool} {w : World} {l : List Field} {m : List (Nat × Nat × Bool)} (hf : l.map (fun f => (f.type, f.offset, f.name == "_")) = m) (h : ∀ l : List Field, l.map (fun f => (f.type, f.offset, f.name == "_")) = m → (Op.eqFields d xs ys l).run P w = .ok r w) :
    (Op.eqFields d xs ys l).run P w = .ok r w := h l hf
theorem eq_int {P : Program} {t : TypeId} {k' : IntKind} (h : P.underlying t = some (.int k')) (d : Nat) (k : IntKind) (a b : Int) (w : World) : (Op.equalIn (d + 1) t (.int k a) (.int k b)).run P w = .ok (decide (a = b)) w := by rw [run_equalIn_int w d t _ _ _ _ h, int_beq']
theorem eq_bool {P : Program} {t : TypeId} (h : P.underlying t = some .bool) (d : Nat) (a b : Bool) (w : World) : (Op.equalIn (d + 1) t (.bool a) (.bool b)).run P w = .ok (decide (a = b)) w := by rw [run_equalIn_bool' w d t _ _ h, bool_beq']
theorem eq_str {P : Program} {t : TypeId} (h : P.underlying t = some .string) (d : Nat) (a b : List UInt8) (w : World) : (Op.equalIn (d + 1) t (S a) (S b)).run P w = .ok (decide (a = b)) w := by
  unfold S; rw [run_equalIn_string w d t _ _ h, S_beq']
end Go.Q
namespace Go.Q
open Go.Proofs
set_option linter.unusedVariables false
set_option maxRecDepth 100000
attribute [local irreducible] wpList OK Code.wp
def eqv74 (a0 : List UInt8) (a1 : Bool) (b0 : List UInt8) (b1 : Bool) : Bool := (decide (a0 = b0) && (decide (a1 = b1) && true))
theorem eqT74 (d : Nat) (w : World) (a0 : List UInt8) (a1 : Bool) (b0 : List UInt8) (b1 : Bool) : (Op.equalIn (d + 2) 74 (.agg #[(S a0), (.bool a1)]) (.agg #[(S b0), (.bool b1)])).run Try.prog w = .ok (eqv74 a0 a1 b0 b1) w := by
  rw [run_equalIn_struct w _ 74 _ _ (by kernel_rfl) (by kernel_rfl)]
  refine eqC_fields (m := [(9, 0, false), (4, 1, false)]) (by kernel_rfl) fun l hl => ?_
  obtain ⟨f0, l0, rfl, h0, hl⟩ := List.map_eq_cons_iff.1 hl
  refine eqC_cons (ft := 9) (fo := 0) (a := (S a0)) (b := (S b0)) h0 (part1 Try.underlying9 rfl (by kernel_rfl) w) (part1 Try.underlying9 rfl (by kernel_rfl) w) (eq_str Try.underlying9 (d + 0) _ _ w) ?_
  obtain ⟨f1, l1, rfl, h1, hl⟩ := List.map_eq_cons_iff.1 hl
  refine eqC_cons (ft := 4) (fo := 1) (a := (.bool a1)) (b := (.bool b1)) h1 (part1 Try.underlying4 rfl (by kernel_rfl) w) (part1 Try.underlying4 rfl (by kernel_rfl) w) (eq_bool Try.underlying4 (d + 0) _ _ w) ?_
  obtain rfl := List.map_eq_nil_iff.1 hl
  exact eqC_nil
theorem o_eql74 {ρ : Operand → Value} {w : World} {K : Value → World → Prop} {dst : Option Tmp} {T : TypeId} {pos : String} {after : Array Edge} {g : Option (Nat × Bool)} {u : TypeId} {x y : Operand} (a0 : List UInt8) (a1 : Bool) (b0 : List UInt8) (b1 : Bool) (hx : ρ x = .agg #[(S a0), (.bool a1)]) (hy : ρ y = .agg #[(S b0), (.bool b1)]) (h : K (.bool ((eqv74 a0 a1 b0 b1))) w) :
    OK Try.prog ⟨dst, .binOp .eql 74 x y u, T, pos, after, g⟩ ρ w K :=
  o_eqx hx hy (run_eqGuard_agg w _ _ _ _ _ _ (by kernel_rfl)) rfl (eqT74 (9998) w a0 a1 b0 b1) h
theorem o_neq74 {ρ : Operand → Value} {w : World} {K : Value → World → Prop} {dst : Option Tmp} {T : TypeId} {pos : String} {after : Array Edge} {g : Option (Nat × Bool)} {u : TypeId} {x y : Operand} (a0 : List UInt8) (a1 : Bool) (b0 : List UInt8) (b1 : Bool) (hx : ρ x = .agg #[(S a0), (.bool a1)]) (hy : ρ y = .agg #[(S b0), (.bool b1)]) (h : K (.bool (!(eqv74 a0 a1 b0 b1))) w) :
    OK Try.prog ⟨dst, .binOp .neq 74 x y u, T, pos, after, g⟩ ρ w K :=
  o_nex hx hy (run_eqGuard_agg w _ _ _ _ _ _ (by kernel_rfl)) rfl (eqT74 (9998) w a0 a1 b0 b1) h
theorem eqv74_iff (a0 : List UInt8) (a1 : Bool) (b0 : List UInt8) (b1 : Bool) : eqv74 a0 a1 b0 b1 = true ↔ a0 = b0 ∧ a1 = b1 := by
  unfold eqv74; simp
def eqv95 (a0 : Int) (a1 : Int) (b0 : Int) (b1 : Int) : Bool := (decide (a0 = b0) && (decide (a1 = b1) && true))
theorem eqT95 (d : Nat) (w : World) (a0 : Int) (a1 : Int) (b0 : Int) (b1 : Int) : (Op.equalIn (d + 2) 95 (.agg #[(.int .i64 a0), (.int .i64 a1)]) (.agg #[(.int .i64 b0), (.int .i64 b1)])).run Try.prog w = .ok (eqv95 a0 a1 b0 b1) w := by
  rw [run_equalIn_struct w _ 95 _ _ (by kernel_rfl) (by kernel_rfl)]
  refine eqC_fields (m := [(3, 0, false), (3, 1, false)]) (by kernel_rfl) fun l hl => ?_
  obtain ⟨f0, l0, rfl, h0, hl⟩ := List.map_eq_cons_iff.1 hl
  refine eqC_cons (ft := 3) (fo := 0) (a := (.int .i64 a0)) (b := (.int .i64 b0)) h0 (part1 Try.underlying3 rfl (by kernel_rfl) w) (part1 Try.underlying3 rfl (by kernel_rfl) w) (eq_int Try.underlying3 (d + 0) _ _ _ w) ?_
  obtain ⟨f1, l1, rfl, h1, hl⟩ := List.map_eq_cons_iff.1 hl
  refine eqC_cons (ft := 3) (fo := 1) (a := (.int .i64 a1)) (b := (.int .i64 b1)) h1 (part1 Try.underlying3 rfl (by kernel_rfl) w) (part1 Try.underlying3 rfl (by kernel_rfl) w) (eq_int Try.underlying3 (d + 0) _ _ _ w) ?_
  obtain rfl := List.map_eq_nil_iff.1 hl
  exact eqC_nil
theorem o_eql95 {ρ : Operand → Value} {w : World} {K : Value → World → Prop} {dst : Option Tmp} {T : TypeId} {pos : String} {after : Array Edge} {g : Option (Nat × Bool)} {u : TypeId} {x y : Operand} (a0 : Int) (a1 : Int) (b0 : Int) (b1 : Int) (hx : ρ x = .agg #[(.int .i64 a0), (.int .i64 a1)]) (hy : ρ y = .agg #[(.int .i64 b0), (.int .i64 b1)]) (h : K (.bool ((eqv95 a0 a1 b0 b1))) w) :
    OK Try.prog ⟨dst, .binOp .eql 95 x y u, T, pos, after, g⟩ ρ w K :=
  o_eqx hx hy (run_eqGuard_agg w _ _ _ _ _ _ (by kernel_rfl)) rfl (eqT95 (9998) w a0 a1 b0 b1) h
theorem o_neq95 {ρ : Operand → Value} {w : World} {K : Value → World → Prop} {dst : Option Tmp} {T : TypeId} {pos : String} {after : Array Edge} {g : Option (Nat × Bool)} {u : TypeId} {x y : Operand} (a0 : Int) (a1 : Int) (b0 : Int) (b1 : Int) (hx : ρ x = .agg #[(.int .i64 a0), (.int .i64 a1)]) (hy : ρ y = .agg #[(.int .i64 b0), (.int .i64 b1)]) (h : K (.bool (!(eqv95 a0 a1 b0 b1))) w) :
    OK Try.prog ⟨dst, .binOp .neq 95 x y u, T, pos, after, g⟩ ρ w K :=
  o_nex hx hy (run_eqGuard_agg w _ _ _ _ _ _ (by kernel_rfl)) rfl (eqT95 (9998) w a0 a1 b0 b1) h
theorem eqv95_iff (a0 : Int) (a1 : Int) (b0 : Int) (b1 : Int) : eqv95 a0 a1 b0 b1 = true ↔ a0 = b0 ∧ a1 = b1 := by
  unfold eqv95; simp
end Go.Q
namespace Go.Q
def rcC (a : Plc) : List Value := [iV a.own, S a.key, .bool a.wr]
theorem rcC_len (a : Plc) : (rcC a).length = 3 := rfl
theorem one_rcC (l : List Plc) : ∀ u ∈ l.flatMap rcC, u.oneCell' = true := one_flat (fun p u hu => by
  simp only [rcC, List.mem_cons, List.not_mem_nil, or_false] at hu
  rcases hu with rfl | rfl | rfl <;> rfl) l
def isC (o : Int) (k : Bs) (p : Plc) : Bool := ownIs o p && keyIs k p
theorem isC_yes {o : Int} {k : Bs} {p : Plc} (h1 : p.own = o) (h2 : p.key = k) : isC o k p = true := by simp [isC, ownIs, keyIs, h1, h2]
theorem isC_no1 {o : Int} {k : Bs} {p : Plc} (h1 : ¬ p.own = o) : isC o k p = false := by simp [isC, ownIs, h1]
theorem isC_no2 {o : Int} {k : Bs} {p : Plc} (h2 : ¬ p.key = k) : isC o k p = false := by simp [isC, keyIs, h2]
theorem findC_lt (l : List Plc) (o : Int) (k : Bs) : -1 ≤ findC l o k ∧ findC l o k < l.length := idxG_lt _ _
theorem findC_eq (l : List Plc) (o : Int) (k : Bs) : findC l o k = idxG (isC o k) l := rfl
/-- the first that is so is not ahead of what was looked at -/
theorem nof_step {α : Type} {c : α → Bool} {l : List α} {k : Nat} {x : α} (hf : ∀ j, j < k → ∀ y, l[j]? = some y → c y = false) (hx : l[k]? = some x) (hc : c x = false) : ∀ j, j < k + 1 → ∀ y, l[j]? = some y → c y = false := by
  intro j hj y hy
  rcases Nat.lt_or_ge j k with g | g
  · exact hf j g y hy
  · obtain rfl : j = k := by omega
    cases hy.symm.trans hx; exact hc
theorem nof_end {α : Type} {c : α → Bool} {l : List α} {k : Nat} (hf : ∀ j, j < k → ∀ y, l[j]? = some y → c y = false) (h : k = l.length) : idxG c l = -1 := idxG_none fun j x hx => hf j (by have := (List.getElem?_eq_some_iff.1 hx).1; omega) x hx
def badC (c h : Plc) : Bool := keyIs c.key h && clashS h c
theorem free_end {H : List Plc} {c : Plc} {k : Nat} (hf : ∀ j, j < k → ∀ y, H[j]? = some y → badC c y = false) (h : k = H.length) : freeR H c = true := by
  unfold freeR
  rw [show (H.any fun h => keyIs c.key h && clashS h c) = false from by
    rw [List.any_eq_false]; intro x hx; obtain ⟨j, hj⟩ := List.getElem?_of_mem hx
    have := hf j (by have := (List.getElem?_eq_some_iff.1 hj).1; omega) x hj
    simpa [badC] using this]; rfl
theorem free_not {H : List Plc} {c x : Plc} {k : Nat} (hx : H[k]? = some x) (hc : badC c x = true) : freeR H c = false := by
  unfold freeR
  rw [show (H.any fun h => keyIs c.key h && clashS h c) = true from List.any_eq_true.2 ⟨x, List.mem_of_getElem? hx, hc⟩]; rfl
theorem eraseIdx_eq {α : Type} (l : List α) (i : Nat) : l.take i ++ l.drop (i + 1) = l.eraseIdx i := (List.eraseIdx_eq_take_drop_succ l i).symm
theorem set_eq {α : Type} {l : List α} {i : Nat} (h : i < l.length) (x : α) : insAt (l.eraseIdx i) i x = l.set i x := by
  unfold insAt
  rw [List.eraseIdx_eq_take_drop_succ, List.set_eq_take_append_cons_drop, if_pos h]
  have : (l.take i).length = i := by rw [List.length_take]; omega
  rw [List.take_append_of_le_length (by omega), List.take_of_length_le (by omega), List.drop_append_of_le_length (by omega), List.drop_of_length_le (l := l.take i) (by omega)]
  simp
theorem er_len {α : Type} {l : List α} {i : Int} (h : 0 ≤ i ∧ i < l.length) : (l.eraseIdx i.toNat).length + 1 = l.length := by rw [List.length_eraseIdx, if_pos (by omega)]; omega
theorem insAt_end {α : Type} (l : List α) (x : α) : insAt l l.length x = l ++ [x] := by simp [insAt]
end Go.Q
namespace Go.Q
theorem has_not {l : List Int} {n : Int} {k : Nat} (hf : ∀ j, j < k → ∀ y, l[j]? = some y → decide (y = n) = false) (h : k = l.length) : decide (n ∈ l) = false := by
  rw [decide_eq_false_iff_not]; intro hm; obtain ⟨j, hj⟩ := List.getElem?_of_mem hm
  have := hf j (by have := (List.getElem?_eq_some_iff.1 hj).1; omega) n hj
  simp at this
theorem insK_at : ∀ {out : List Bs} {a : Nat} {k : Bs}, (∀ j, j < a → ∀ y, out[j]? = some y → Op.bytesLess y k = true) → a ≤ out.length → (∀ y, out[a]? = some y → Op.bytesLess y k = false) → insK out k = if out[a]? = some k then out else insAt out a k
  | [], a, k, _, ha, _ => by
    have : a = 0 := by simpa using ha
    subst this; simp [insK, insAt]
  | x :: t, 0, k, _, _, hn => by
    have h0 := hn x rfl
    rw [insK, if_neg (by rw [h0]; decide)]
    by_cases e : x = k
    · subst e; simp
    · rw [if_neg e, if_neg (by simpa using e)]; rfl
  | x :: t, a + 1, k, hl, ha, hn => by
    have h0 := hl 0 (by omega) x rfl
    rw [insK, if_pos h0, insK_at (out := t) (a := a) (fun j hj y hy => hl (j + 1) (by omega) y hy) (by simpa using ha) (fun y hy => hn y hy)]
    simp only [List.getElem?_cons_succ]
    split
    · rfl
    · simp [insAt]
theorem insK_has {out : List Bs} {a : Nat} {k x : Bs} (hl : ∀ j, j < a → ∀ y, out[j]? = some y → Op.bytesLess y k = true) (hx : out[a]? = some x) (h : Op.bytesLess x k = false) (e : x = k) : insK out k = out := by
  rw [insK_at hl (by have := (List.getElem?_eq_some_iff.1 hx).1; omega) (fun y hy => by cases hy.symm.trans hx; exact h), if_pos (by rw [hx, e])]
theorem insK_mid {out : List Bs} {a : Nat} {k x : Bs} (hl : ∀ j, j < a → ∀ y, out[j]? = some y → Op.bytesLess y k = true) (hx : out[a]? = some x) (h : Op.bytesLess x k = false) (e : ¬ x = k) : insK out k = insAt out a k := by
  rw [insK_at hl (by have := (List.getElem?_eq_some_iff.1 hx).1; omega) (fun y hy => by cases hy.symm.trans hx; exact h), if_neg (by rw [hx]; simpa using e)]
theorem insK_end {out : List Bs} {a : Nat} {k : Bs} (hl : ∀ j, j < a → ∀ y, out[j]? = some y → Op.bytesLess y k = true) (h : a = out.length) : insK out k = insAt out a k := by
  subst h
  rw [insK_at hl (Nat.le_refl _) (fun y hy => by simp at hy), if_neg (by simp)]
theorem keysR_step {l : List Plc} {k : Nat} {x : Plc} {out : List Bs} (h : out = keysR (l.take k)) (hx : l[k]? = some x) : keysR (l.take (k + 1)) = insK out x.key := by
  rw [take_succ_of hx, keysR, List.foldl_append, h]; rfl
theorem sh_step {out sh : List Bs} {z x : Bs} {k : Int} (h : sh = (out ++ [z]).take (k.toNat + 1) ++ out.drop k.toNat) (h0 : 0 < k ∧ k ≤ out.length) (hx : sh[(k - 1).toNat]? = some x) : sh.set k.toNat x = (out ++ [z]).take ((k - 1).toNat + 1) ++ out.drop (k - 1).toNat := by
  obtain ⟨n, rfl⟩ : ∃ n : Nat, k = ((n + 1 : Nat) : Int) := ⟨(k - 1).toNat, by omega⟩
  have e1 : (((n + 1 : Nat) : Int)).toNat = n + 1 := by omega
  have e2 : (((n + 1 : Nat) : Int) - 1).toNat = n := by omega
  rw [e1] at h ⊢; rw [e2] at hx ⊢
  have hn : n < out.length := by omega
  have hx2 : out[n]? = some x := by
    rw [h, List.getElem?_append_left (by rw [List.length_take, List.length_append, List.length_singleton]; omega), List.getElem?_take_of_lt (by omega), List.getElem?_append_left hn] at hx; exact hx
  have e3 : (out ++ [z]).take (n + 1 + 1) = (out ++ [z]).take (n + 1) ++ [(out ++ [z])[n + 1]'(by rw [List.length_append, List.length_singleton]; omega)] := by rw [List.take_succ_eq_append_getElem]
  have e4 : ((out ++ [z]).take (n + 1)).length = n + 1 := by rw [List.length_take, List.length_append, List.length_singleton]; omega
  rw [h, e3, List.append_assoc, List.set_append_right _ _ (by omega), e4, Nat.sub_self]
  have e5 : out.drop n = x :: out.drop (n + 1) := by
    obtain ⟨hl, hg⟩ := List.getElem?_eq_some_iff.1 hx2
    rw [← hg]; exact (List.drop_eq_getElem_cons hl)
  rw [e5]; rfl
theorem sh_end {out sh : List Bs} {z x : Bs} {k : Int} {a : Nat} (h : sh = (out ++ [z]).take (k.toNat + 1) ++ out.drop k.toNat) (hk : k = a) (ha : a ≤ out.length) : sh.set a x = insAt out a x := by
  subst hk
  rw [Int.toNat_natCast] at h
  have e4 : ((out ++ [z]).take a) = out.take a := by rw [List.take_append_of_le_length ha]
  have e3 : (out ++ [z]).take (a + 1) = out.take a ++ [(out ++ [z])[a]'(by rw [List.length_append, List.length_singleton]; omega)] := by rw [← e4, List.take_succ_eq_append_getElem]
  rw [h, e3, List.append_assoc, List.set_append_right _ _ (by rw [List.length_take]; omega), List.length_take, Nat.min_eq_left ha, Nat.sub_self, insAt, List.append_assoc]; rfl
theorem of_yes {l : List Plc} {k : Nat} {x : Plc} {key : Bs} {out : List Int} (h : out = ofR (l.take k) key) (hx : l[k]? = some x) (e : x.key = key) : out ++ [x.own] = ofR (l.take (k + 1)) key := by
  rw [take_succ_of hx, ofR, List.filter_append, List.map_append, h]; simp [ofR, keyIs, e]
theorem of_no {l : List Plc} {k : Nat} {x : Plc} {key : Bs} {out : List Int} (h : out = ofR (l.take k) key) (hx : l[k]? = some x) (e : ¬ x.key = key) : out = ofR (l.take (k + 1)) key := by
  rw [take_succ_of hx, ofR, List.filter_append, List.map_append, h]; simp [ofR, keyIs, e]
end Go.Q
namespace Go.Q
def plF {α : Type} (c : α → Bool) (L : List α) (j : Nat) : Int := match (L.drop j).findIdx? c with
  | some i => ((i + j : Nat) : Int)
  | none => (L.length : Int)
theorem plF_len {α : Type} (c : α → Bool) (L : List α) : plF c L L.length = L.length := by simp [plF]
theorem plF_yes {α : Type} {c : α → Bool} {L : List α} {j : Nat} {x : α} (hx : L[j]? = some x) (h : c x = true) : plF c L j = j := by
  obtain ⟨hl, hg⟩ := List.getElem?_eq_some_iff.1 hx
  rw [plF, List.drop_eq_getElem_cons hl, hg, List.findIdx?_cons, h]; simp
theorem plF_no {α : Type} {c : α → Bool} {L : List α} {j : Nat} {x : α} (hx : L[j]? = some x) (h : c x = false) : plF c L j = plF c L (j + 1) := by
  obtain ⟨hl, hg⟩ := List.getElem?_eq_some_iff.1 hx
  rw [plF, plF, List.drop_eq_getElem_cons hl, hg, List.findIdx?_cons, h]
  cases (L.drop (j + 1)).findIdx? c with
  | none => rfl
  | some i => simp; omega
theorem plF_le {α : Type} (c : α → Bool) (L : List α) (j : Nat) (hj : j ≤ L.length) : 0 ≤ plF c L j ∧ plF c L j ≤ L.length := by
  unfold plF
  cases h : (L.drop j).findIdx? c with
  | none => simp
  | some i =>
    obtain ⟨hl, _, _⟩ := List.findIdx?_eq_some_iff_getElem.1 h
    rw [List.length_drop] at hl
    simp only; omega
/-- who waits ahead of whom: those that hold nothing of the key -/
def lateC (H : List Plc) (k : Bs) (q : Plc) : Bool := keyIs k q && decide (findC H q.own k < 0)
theorem placeR_yes {H L : List Plc} {o : Int} {k : Bs} (h : 0 ≤ findC H o k) : (placeR H L o k : Int) = plF (lateC H k) L 0 := by
  unfold placeR plF
  rw [if_pos h, List.drop_zero, show (fun q => keyIs k q && decide (findC H q.own k < 0)) = lateC H k from rfl]
  cases L.findIdx? (lateC H k) with
  | none => rfl
  | some i => simp
theorem placeR_no {H L : List Plc} {o : Int} {k : Bs} (h : ¬ 0 ≤ findC H o k) : placeR H L o k = L.length := by unfold placeR; rw [if_neg h]
theorem askR_line {H L : List Plc} {o : Int} {k : Bs} {wr : Bool} (h0 : ¬ o < 0) (h1 : ¬ 0 ≤ idxG (ownIs o) L) (h3 : ¬ (0 ≤ findC H o k ∧ (((H[(findC H o k).toNat]?).map (·.wr)).getD false = true ∨ wr = false)))
    (h4 : ¬ (freeR H ⟨k, wr, o⟩ = true ∧ (0 ≤ findC H o k ∨ (L.filter (keyIs k)).length = 0))) {pl : Int} (hp : pl = (placeR H L o k : Int)) : askR H L o k wr = ((H, insAt L pl.toNat ⟨k, wr, o⟩), 10) := by
  unfold askR; rw [if_neg h0, if_neg h1, if_neg h3, if_neg h4, hp, Int.toNat_natCast]
theorem askR_held {H L : List Plc} {o : Int} {k : Bs} {wr : Bool} (h0 : ¬ o < 0) (h1 : ¬ 0 ≤ idxG (ownIs o) L) (h3 : ¬ (0 ≤ findC H o k ∧ (((H[(findC H o k).toNat]?).map (·.wr)).getD false = true ∨ wr = false)))
    (h4 : freeR H ⟨k, wr, o⟩ = true ∧ (0 ≤ findC H o k ∨ (L.filter (keyIs k)).length = 0)) : askR H L o k wr = ((holdR H ⟨k, wr, o⟩, L), 0) := by
  unfold askR; rw [if_neg h0, if_neg h1, if_neg h3, if_pos h4]
theorem askR_has {H L : List Plc} {o : Int} {k : Bs} {wr : Bool} (h0 : ¬ o < 0) (h1 : ¬ 0 ≤ idxG (ownIs o) L) (h3 : 0 ≤ findC H o k ∧ (((H[(findC H o k).toNat]?).map (·.wr)).getD false = true ∨ wr = false)) : askR H L o k wr = ((H, L), 0) := by
  unfold askR; rw [if_neg h0, if_neg h1, if_pos h3]
theorem askR_wait {H L : List Plc} {o : Int} {k : Bs} {wr : Bool} (h0 : ¬ o < 0) (h1 : 0 ≤ idxG (ownIs o) L) : askR H L o k wr = ((H, L), 12) := by
  unfold askR; rw [if_neg h0, if_pos h1]
theorem askR_neg {H L : List Plc} {o : Int} {k : Bs} {wr : Bool} (h0 : o < 0) : askR H L o k wr = ((H, L), 1) := by
  unfold askR; rw [if_pos h0]
theorem cnt_yes {l : List Plc} {k : Nat} {x : Plc} {key : Bs} {n : Int} (h : n = (((l.take k).filter (keyIs key)).length : Int)) (hx : l[k]? = some x) (e : x.key = key) : n + 1 = (((l.take (k + 1)).filter (keyIs key)).length : Int) := by
  rw [take_succ_of hx, List.filter_append, List.length_append, h]; simp [keyIs, e]
theorem cnt_no {l : List Plc} {k : Nat} {x : Plc} {key : Bs} {n : Int} (h : n = (((l.take k).filter (keyIs key)).length : Int)) (hx : l[k]? = some x) (e : ¬ x.key = key) : n = (((l.take (k + 1)).filter (keyIs key)).length : Int) := by
  rw [take_succ_of hx, List.filter_append, List.length_append, h]; simp [keyIs, e]
end Go.Q
namespace Go.Q
theorem insK_len : ∀ (out : List Bs) (k : Bs), out.length ≤ (insK out k).length ∧ (insK out k).length ≤ out.length + 1
  | [], k => by simp [insK]
  | x :: t, k => by
    rw [insK]; split
    · have := insK_len t k; simp only [List.length_cons]; omega
    · split <;> simp
theorem keys_foldl_len : ∀ (l : List Plc) (out : List Bs), (l.foldl (fun out p => insK out p.key) out).length ≤ out.length + l.length
  | [], out => by simp
  | p :: l, out => by
    have := keys_foldl_len l (insK out p.key); have := insK_len out p.key
    rw [List.foldl_cons, List.length_cons]; omega
theorem keysR_len (l : List Plc) : (keysR l).length ≤ l.length := by have := keys_foldl_len l []; simpa [keysR] using this
theorem findC_at {H : List Plc} {o : Int} {k : Bs} {x : Plc} (h : 0 ≤ findC H o k) (hx : H[(findC H o k).toNat]? = some x) : H.find? (fun p => ownIs o p && keyIs k p) = some x := by
  unfold findC idxG at h hx
  cases e : H.findIdx? (fun p => ownIs o p && keyIs k p) with
  | none => rw [e] at h; simp only at h; omega
  | some i =>
    rw [e] at hx
    obtain ⟨hlt, hc, hn⟩ := List.findIdx?_eq_some_iff_getElem.1 e
    simp only [Int.toNat_natCast] at hx
    have hxe : H[i] = x := (List.getElem?_eq_some_iff.1 hx).2
    rw [List.find?_eq_some_iff_getElem]
    exact ⟨by rw [← hxe]; exact hc, i, hlt, hxe, fun j hj => by have := hn j hj; cases h1 : ownIs o H[j] <;> simp_all⟩
theorem findC_no {H : List Plc} {o : Int} {k : Bs} (h : ¬ 0 ≤ findC H o k) : H.find? (fun p => ownIs o p && keyIs k p) = none := by
  unfold findC idxG at h
  cases e : H.findIdx? (fun p => ownIs o p && keyIs k p) with
  | none => rw [List.find?_eq_none]; intro x hx; have := List.findIdx?_eq_none_iff.1 e x hx; simpa using this
  | some i => rw [e] at h; simp only at h; omega
def holdK (H : List Plc) (o : Int) (k : Bs) : Option Plc := H.find? (fun p => ownIs o p && keyIs k p)
theorem holdsR_eq (H : List Plc) (o : Int) : holdsR H o = (keysR H).filterMap (holdK H o) := rfl
theorem hk_yes {H : List Plc} {o : Int} {ks : List Bs} {k : Nat} {y : Bs} {x : Plc} {out : List Plc} (hf : out = (ks.take k).filterMap (holdK H o)) (hy : ks[k]? = some y) (h : 0 ≤ findC H o y) (hx : H[(findC H o y).toNat]? = some x) : out ++ [x] = (ks.take (k + 1)).filterMap (holdK H o) := by
  rw [take_succ_of hy, List.filterMap_append, hf, List.filterMap_cons, holdK, findC_at h hx]; rfl
theorem hk_no {H : List Plc} {o : Int} {ks : List Bs} {k : Nat} {y : Bs} {out : List Plc} (hf : out = (ks.take k).filterMap (holdK H o)) (hy : ks[k]? = some y) (h : ¬ 0 ≤ findC H o y) : out = (ks.take (k + 1)).filterMap (holdK H o) := by
  rw [take_succ_of hy, List.filterMap_append, hf, List.filterMap_cons, holdK, findC_no h]; simp
end Go.Q
namespace Go.Q
theorem stay_keep {all : Bool} {ow : List Int} {H hh : List Plc} {k : Nat} {x : Plc} (h : hh = stayH all ow (H.take k)) (hx : H[k]? = some x) (hc : all = false ∨ decide (x.own ∈ ow) = false) : hh ++ [x] = stayH all ow (H.take (k + 1)) := by
  rw [take_succ_of hx, h]; unfold stayH
  split
  · rename_i ha
    have : decide (x.own ∈ ow) = false := hc.resolve_left (by rw [ha]; decide)
    rw [List.filter_append, List.filter_cons, if_pos (by rw [goneS, this]; rfl)]; rfl
  · rfl
theorem stay_drop {all : Bool} {ow : List Int} {H hh : List Plc} {k : Nat} {x : Plc} (h : hh = stayH all ow (H.take k)) (hx : H[k]? = some x) (ha : all = true) (hc : decide (x.own ∈ ow) = true) : hh = stayH all ow (H.take (k + 1)) := by
  rw [take_succ_of hx, h]; unfold stayH
  rw [if_pos ha, if_pos ha, List.filter_append, List.filter_cons, if_neg (by rw [goneS, hc]; decide)]; simp
theorem stayL_keep {ow : List Int} {H hh : List Plc} {k : Nat} {x : Plc} (h : hh = stayL ow (H.take k)) (hx : H[k]? = some x) (hc : decide (x.own ∈ ow) = false) : hh ++ [x] = stayL ow (H.take (k + 1)) := by
  rw [take_succ_of hx, h]; unfold stayL
  rw [List.filter_append, List.filter_cons, if_pos (by rw [goneS, hc]; rfl)]; rfl
theorem stayL_drop {ow : List Int} {H hh : List Plc} {k : Nat} {x : Plc} (h : hh = stayL ow (H.take k)) (hx : H[k]? = some x) (hc : decide (x.own ∈ ow) = true) : hh = stayL ow (H.take (k + 1)) := by
  rw [take_succ_of hx, h]; unfold stayL
  rw [List.filter_append, List.filter_cons, if_neg (by rw [goneS, hc]; decide)]; simp
theorem holdR_len (H : List Plc) (c : Plc) : (holdR H c).length ≤ H.length + 1 ∧ H.length ≤ (holdR H c).length := by
  unfold holdR; split
  · rw [List.length_set]; omega
  · rw [List.length_append]; simp
theorem idx_findIdx {α : Type} {c : α → Bool} {l : List α} (h : 0 ≤ idxG c l) : l.findIdx? c = some (idxG c l).toNat := by
  unfold idxG at h ⊢
  cases e : l.findIdx? c with
  | none => rw [e] at h; simp only at h; omega
  | some i => simp
theorem idxG_no {α : Type} {c : α → Bool} {l : List α} (h : ¬ 0 ≤ idxG c l) : l.findIdx? c = none := by
  unfold idxG at h
  cases e : l.findIdx? c with
  | none => rfl
  | some i => rw [e] at h; simp only at h; omega
theorem gr_step {H L : List Plc} {k : Bs} {c : Plc} (h : 0 ≤ idxG (keyIs k) L) (hc : L[(idxG (keyIs k) L).toNat]? = some c) (hf : freeR H c = true) :
    grantR H L k L.length = (c.own :: (grantR (holdR H c) (L.eraseIdx (idxG (keyIs k) L).toNat) k (L.eraseIdx (idxG (keyIs k) L).toNat).length).1, (grantR (holdR H c) (L.eraseIdx (idxG (keyIs k) L).toNat) k (L.eraseIdx (idxG (keyIs k) L).toNat).length).2) := by
  have hl := (List.getElem?_eq_some_iff.1 hc).1
  obtain ⟨n, hn⟩ : ∃ n, L.length = n + 1 := ⟨L.length - 1, by omega⟩
  rw [List.length_eraseIdx, if_pos hl, hn, Nat.add_sub_cancel]
  rw [grantR, idx_findIdx h]; simp only [hc, hf, if_true]
theorem gr_stop {H L : List Plc} {k : Bs} (h : ¬ 0 ≤ idxG (keyIs k) L ∨ ∃ c, 0 ≤ idxG (keyIs k) L ∧ L[(idxG (keyIs k) L).toNat]? = some c ∧ freeR H c = false) : grantR H L k L.length = ([], H, L) := by
  rcases h with h | ⟨c, h, hc, hf⟩
  · cases hn : L.length with
    | zero => rfl
    | succ n => rw [grantR, idxG_no h]
  · have hl := (List.getElem?_eq_some_iff.1 hc).1
    obtain ⟨n, hn⟩ : ∃ n, L.length = n + 1 := ⟨L.length - 1, by omega⟩
    rw [hn, grantR, idx_findIdx h]; simp only [hc, hf]; rfl
/-- what a Leave tells when a key's line is being granted -/
def lvG (H L : List Plc) (out : List Int) (y : Bs) (rest : List Bs) : (List Plc × List Plc) × List Int := ((leaveRF (grantR H L y L.length).2.1 (grantR H L y L.length).2.2 rest).1, out ++ ((grantR H L y L.length).1 ++ (leaveRF (grantR H L y L.length).2.1 (grantR H L y L.length).2.2 rest).2))
def lvF (H L : List Plc) (out : List Int) (ks : List Bs) : (List Plc × List Plc) × List Int := ((leaveRF H L ks).1, out ++ (leaveRF H L ks).2)
theorem lv_open {H L : List Plc} {out : List Int} {ks : List Bs} {a : Nat} {y : Bs} {X : (List Plc × List Plc) × List Int} (h : X = lvF H L out (ks.drop a)) (hy : ks[a]? = some y) : X = lvG H L out y (ks.drop (a + 1)) := by
  rw [h, drop_of hy, lvF, lvG, leaveRF]
theorem lv_step {H L : List Plc} {out : List Int} {rest : List Bs} {y : Bs} {c : Plc} {X : (List Plc × List Plc) × List Int} (h : X = lvG H L out y rest) (h0 : 0 ≤ idxG (keyIs y) L) (hc : L[(idxG (keyIs y) L).toNat]? = some c) (hf : freeR H c = true) :
    X = lvG (holdR H c) (L.eraseIdx (idxG (keyIs y) L).toNat) (out ++ [c.own]) y rest := by
  rw [h, lvG, gr_step h0 hc hf, lvG]; simp
theorem lv_stop {H L : List Plc} {out : List Int} {rest : List Bs} {y : Bs} {X : (List Plc × List Plc) × List Int} (h : X = lvG H L out y rest) (hs : ¬ 0 ≤ idxG (keyIs y) L ∨ ∃ c, 0 ≤ idxG (keyIs y) L ∧ L[(idxG (keyIs y) L).toNat]? = some c ∧ freeR H c = false) : X = lvF H L out rest := by
  rw [h, lvG, gr_stop hs, lvF]; rfl
theorem lv_end {H L : List Plc} {out : List Int} {ks : List Bs} {a : Nat} {X : (List Plc × List Plc) × List Int} (h : X = lvF H L out (ks.drop a)) (ha : a = ks.length) : X = ((H, L), out) := by
  subst ha; rw [h, List.drop_length, lvF, leaveRF]; simp
end Go.Q
namespace Go.Q
theorem badC_eq (c : Plc) : (fun h => keyIs c.key h && clashS c h) = badC c := by funext h; unfold badC; rw [clash_comm]
def oneE (H pre : List Plc) (c : Plc) : List (Int × Int) := (H.filter (badC c)).map (fun q => (c.own, q.own)) ++ (pre.filter (badC c)).map (fun q => (c.own, q.own))
theorem edR_snoc (H : List Plc) (k : Bs) (x : Plc) : ∀ (l pre : List Plc), edR H pre k (l ++ [x]) = edR H pre k l ++ (if keyIs k x = true then oneE H (pre ++ l) x else [])
  | [], pre => by simp [edR, oneE, badC_eq]
  | p :: l, pre => by rw [List.cons_append, edR, edR, edR_snoc H k x l (pre ++ [p])]; simp [List.append_assoc]
def eK (H L : List Plc) (k : Bs) : List (Int × Int) := edR H [] k L
theorem edgesR_eq (H L : List Plc) : edgesR H L = (keysR L).flatMap (eK H L) := rfl
theorem eR_no {H L : List Plc} {k : Nat} {x : Plc} {y : Bs} {b a : List (Int × Int)} (h : b = a ++ edR H [] y (L.take k)) (hx : L[k]? = some x) (e : ¬ x.key = y) : b = a ++ edR H [] y (L.take (k + 1)) := by
  rw [take_succ_of hx, edR_snoc, if_neg (by simpa [keyIs] using e), List.append_nil, h]
theorem eR_yes {H L : List Plc} {k : Nat} {x : Plc} {y : Bs} {b a c d : List (Int × Int)} (h : b = a ++ edR H [] y (L.take k)) (hx : L[k]? = some x) (e : x.key = y) (hc : c = b ++ (H.filter (badC x)).map (fun q => (x.own, q.own))) (hd : d = c ++ ((L.take k).filter (badC x)).map (fun q => (x.own, q.own))) : d = a ++ edR H [] y (L.take (k + 1)) := by
  rw [take_succ_of hx, edR_snoc, if_pos (by simpa [keyIs] using e), hd, hc, h, oneE, List.nil_append]; simp [List.append_assoc]
theorem fC_step {l : List Plc} {k : Nat} {x p : Plc} {o b : List (Int × Int)} (h : o = b ++ ((l.take k).filter (badC p)).map (fun q => (p.own, q.own))) (hx : l[k]? = some x) (hc : badC p x = true) : o ++ [(p.own, x.own)] = b ++ ((l.take (k + 1)).filter (badC p)).map (fun q => (p.own, q.own)) := by
  rw [take_succ_of hx, List.filter_append, List.map_append, h, List.filter_cons, if_pos hc]; simp
theorem fC_skip {l : List Plc} {k : Nat} {x p : Plc} {o b : List (Int × Int)} (h : o = b ++ ((l.take k).filter (badC p)).map (fun q => (p.own, q.own))) (hx : l[k]? = some x) (hc : badC p x = false) : o = b ++ ((l.take (k + 1)).filter (badC p)).map (fun q => (p.own, q.own)) := by
  rw [take_succ_of hx, List.filter_append, List.map_append, h, List.filter_cons, if_neg (by rw [hc]; decide)]; simp
theorem eK_step {H L : List Plc} {ks : List Bs} {k : Nat} {y : Bs} {a b : List (Int × Int)} (h : a = (ks.take k).flatMap (eK H L)) (hy : ks[k]? = some y) (hb : b = a ++ edR H [] y L) : b = (ks.take (k + 1)).flatMap (eK H L) := by
  rw [take_succ_of hy, List.flatMap_append, hb, h]; simp [eK]
end Go.Q
namespace Go.Q
open Go.Proofs
set_option linter.unusedVariables false
set_option maxRecDepth 100000
attribute [local irreducible] wpList OK Code.wp
set_option maxHeartbeats 4000000 in
theorem rfind_c {E w : World} {R : List Hp} {v_l : Value} {l : List Plc} {owner : Int} {key : Bs}  (hH : Has E w [R]) (h_l : Sl R 3 v_l l.length (l.flatMap rcC)) :
    Calls Try.prog 136 #[v_l, (.int .i64 owner), (S key)] w fun e w' => e = .returned (.int .i64 (findC l owner key)) ∧ Has E w' [R] := by
  have hn_ := h_l.le
  refine c_enter (args := [v_l, (.int .i64 owner), (S key)]) Try.func136 rfl Try.ntmps136 (by simp) ?_
  refine wp_seq_k fun K1 hK1 => ?_
  refine c_region ?_
  refine s_op (o_assign (v := (.int .i64 0)) rfl ?_)
  refine s_nil ?_
  refine t_norm (hK1 _ _ ?_)
  refine wp_seq_k fun K2 hK2 => ?_
  refine wp_seq_k fun K3 hK3 => ?_
  refine c_region ?_
  refine s_op (o_assign (v := (.int .i64 0)) rfl ?_)
  refine s_nil ?_
  refine t_norm (hK3 _ _ ?_)
  refine wp_block ?_
  let I5 : Nat → (Nat → Value) → World → Prop := fun n__ r__ w__ => ∃ (k : Nat), n__ = l.length - k ∧ Has E w__ [R] ∧ (k ≤ l.length) ∧ (∀ j, j < k → ∀ y, l[j]? = some y → (isC owner key) y = false) ∧ r__ 0 = v_l ∧ r__ 1 = (.int .i64 owner) ∧ r__ 2 = (S key) ∧ r__ 7 = (.int .i64 (k : Int))
  refine c_loop I5 _ ⟨0, rfl, hH, Nat.zero_le _, fun j hj => by omega, rfl, rfl, rfl, rfl⟩ ?_
  rintro n_ r8 w6 ⟨k, rfl, hH7, hk, hf, e4_0, e4_1, e4_2, e4_7⟩
  refine wp_seq_k fun K9 hK9 => ?_
  refine wp_seq_k fun K10 hK10 => ?_
  refine c_region ?_
  refine s_op (o_move (v := (.int .i64 (k : Int))) e4_7 ?_)
  refine s_op (o_move (v := v_l) e4_0 ?_)
  refine s_op (o_lenS Try.underlying84 rfl h_l ?_)
  refine s_op (o_lss (a := (k : Int)) (b := ((l.length : Nat) : Int)) rfl rfl ?_)
  refine s_nil ?_
  refine t_norm (hK10 _ _ ?_)
  refine c_cond rfl (fun h11 => ?_) (fun h11 => ?_)
  · -- (k : Int) < ((l.length : Nat) : Int)
    refine wp_skip ?_
    refine t_norm (hK9 _ _ ?_)
    refine wp_seq_k fun K12 hK12 => ?_
    refine wp_block ?_
    refine wp_seq_k fun K13 hK13 => ?_
    refine c_region ?_
    refine s_op (o_move (v := v_l) e4_0 ?_)
    refine s_op (o_move (v := (.int .i64 (k : Int))) e4_7 ?_)
    obtain ⟨x17, hx18⟩ : ∃ x_, l[((k : Int)).toNat]? = some x_ := get_some (by omega)
    refine s_op (o_indexF rcC_len Try.underlying84 ti183 rfl h_l rfl rfl (by omega) hx18 fun b14 o15 hc16 => ?_)
    refine s_op (o_fieldAddr (k := o15) (fun _ => by kernel_rfl) rfl ?_)
    refine s_op (o_load1 (v := (.int .i64 x17.own)) Try.underlying3 rfl rfl hH7 (seg_sub 0 rfl) (CellsAt.field (k := 0) (ds := [(.int .i64 x17.own)]) hc16 rfl) ?_)
    refine s_op (o_move (v := (.int .i64 owner)) e4_1 ?_)
    refine s_op (o_eql (a := x17.own) (b := owner) rfl rfl ?_)
    refine s_op (o_move (v := (.bool (decide (x17.own = owner)))) rfl ?_)
    by_cases h19 : x17.own = owner
    · -- x17.own = owner
      refine s_on 21 rfl (congrArg Value.bool (decide_eq_true h19)) (o_move (v := v_l) e4_0 ?_)
      refine s_on 21 rfl (congrArg Value.bool (decide_eq_true h19)) (o_move (v := (.int .i64 (k : Int))) e4_7 ?_)
      refine s_on 21 rfl (congrArg Value.bool (decide_eq_true h19)) (o_indexF rcC_len Try.underlying84 ti183 rfl h_l rfl rfl (by omega) hx18 fun b20 o21 hc22 => ?_)
      refine s_on 21 rfl (congrArg Value.bool (decide_eq_true h19)) (o_fieldAddr (k := o21 + 1) (fun _ => by kernel_rfl) rfl ?_)
      refine s_on 21 rfl (congrArg Value.bool (decide_eq_true h19)) (o_load1 (v := (S x17.key)) Try.underlying9 rfl rfl hH7 (seg_sub 0 rfl) (CellsAt.field (k := 1) (ds := [(S x17.key)]) hc22 rfl) ?_)
      refine s_on 21 rfl (congrArg Value.bool (decide_eq_true h19)) (o_move (v := (S key)) e4_2 ?_)
      refine s_on 21 rfl (congrArg Value.bool (decide_eq_true h19)) (o_seql (a := x17.key) (b := key) rfl rfl ?_)
      refine s_op (o_pick_t (u := (.bool (decide (x17.key = key)))) ((rfl : _ = _).trans (congrArg Value.bool (decide_eq_true h19))) rfl ?_)
      refine s_nil ?_
      refine t_norm (hK13 _ _ ?_)
      refine c_cond rfl (fun h23 => ?_) (fun h23 => ?_)
      · -- x17.key = key
        refine wp_seq_k fun K24 hK24 => ?_
        refine c_region ?_
        refine s_op (o_move (v := (.int .i64 (k : Int))) e4_7 ?_)
        refine s_op (o_assign (v := (.int .i64 (k : Int))) rfl ?_)
        refine s_nil ?_
        refine t_norm (hK24 _ _ ?_)
        refine wp_ret ?_
        refine b_ret (t_ret (t_ret (b_ret (t_ret (c_ret1 Try.results136  (v := (.int .i64 (k : Int))) rfl ?_)))))
        have q25 : (findC l owner key) = (k : Int) := by exact idxG_some hf (show l[k]? = some _ from hx18) (isC_yes h19 h23)
        exact ⟨by rw [q25], hH7⟩
      · -- not: x17.key = key
        refine wp_skip ?_
        refine b_norm ?_
        refine t_norm (hK12 _ _ ?_)
        refine c_region ?_
        refine s_op (o_move (v := (.int .i64 (k : Int))) e4_7 ?_)
        refine s_op (o_add (a := (k : Int)) (b := 1) rfl rfl (w64 (by omega) (by omega)) ?_)
        refine s_op (o_assign (v := (.int .i64 ((k : Int) + 1))) rfl ?_)
        refine s_nil ?_
        refine t_norm ⟨l.length - (k + 1), _, rfl, ?_, ?_⟩
        · omega
        · exact ⟨(k + 1), rfl, hH7, (by omega), (nof_step hf (show l[k]? = some _ from hx18) (isC_no2 h23)), e4_0, e4_1, e4_2, rfl⟩
    · -- not: x17.own = owner
      refine s_off (b' := false) 21 rfl (congrArg Value.bool (decide_eq_false h19)) rfl ?_
      refine s_off (b' := false) 21 rfl (congrArg Value.bool (decide_eq_false h19)) rfl ?_
      refine s_off (b' := false) 21 rfl (congrArg Value.bool (decide_eq_false h19)) rfl ?_
      refine s_off (b' := false) 21 rfl (congrArg Value.bool (decide_eq_false h19)) rfl ?_
      refine s_off (b' := false) 21 rfl (congrArg Value.bool (decide_eq_false h19)) rfl ?_
      refine s_off (b' := false) 21 rfl (congrArg Value.bool (decide_eq_false h19)) rfl ?_
      refine s_off (b' := false) 21 rfl (congrArg Value.bool (decide_eq_false h19)) rfl ?_
      refine s_op (o_pick_f (u := (.bool false)) ((rfl : _ = _).trans (congrArg Value.bool (decide_eq_false h19))) rfl ?_)
      refine s_nil ?_
      refine t_norm (hK13 _ _ ?_)
      refine c_false rfl rfl ?_
      refine wp_skip ?_
      refine b_norm ?_
      refine t_norm (hK12 _ _ ?_)
      refine c_region ?_
      refine s_op (o_move (v := (.int .i64 (k : Int))) e4_7 ?_)
      refine s_op (o_add (a := (k : Int)) (b := 1) rfl rfl (w64 (by omega) (by omega)) ?_)
      refine s_op (o_assign (v := (.int .i64 ((k : Int) + 1))) rfl ?_)
      refine s_nil ?_
      refine t_norm ⟨l.length - (k + 1), _, rfl, ?_, ?_⟩
      · omega
      · exact ⟨(k + 1), rfl, hH7, (by omega), (nof_step hf (show l[k]? = some _ from hx18) (isC_no1 h19)), e4_0, e4_1, e4_2, rfl⟩
  · -- not: (k : Int) < ((l.length : Nat) : Int)
    refine wp_exit ?_
    refine t_exit (t_exit (x_in (?_)))
    refine t_norm (hK2 _ _ ?_)
    refine wp_seq_k fun K26 hK26 => ?_
    refine c_region ?_
    refine s_op (o_assign (v := (.int .i64 (-1))) rfl ?_)
    refine s_nil ?_
    refine t_norm (hK26 _ _ ?_)
    refine wp_ret ?_
    refine c_ret1 Try.results136  (v := (.int .i64 (-1))) rfl ?_
    have q27 : (findC l owner key) = -1 := by exact nof_end hf (by omega)
    exact ⟨by rw [q27], hH7⟩
set_option maxHeartbeats 4000000 in
theorem rwaits_c {E w : World} {R : List Hp} {v_H : Value} {H : List Plc} {v_L : Value} {L : List Plc} {owner : Int}  (hH : Has E w [R]) (h_H : Sl R 3 v_H H.length (H.flatMap rcC)) (h_L : Sl R 3 v_L L.length (L.flatMap rcC)) :
    Calls Try.prog 101 #[(.agg #[v_H, v_L]), (.int .i64 owner)] w fun e w' => e = .returned (.int .i64 (idxG (ownIs owner) L)) ∧ Has E w' [R] := by
  have hn_ := h_L.le
  refine c_enter (args := [(.agg #[v_H, v_L]), (.int .i64 owner)]) Try.func101 rfl Try.ntmps101 (by simp) ?_
  refine wp_seq_k fun K1 hK1 => ?_
  refine c_region ?_
  refine s_op (o_box (cs := #[v_H, v_L]) rfl rfl hH fun b2 w3 hH4 => ?_)
  refine s_op (o_assign (v := (.int .i64 0)) rfl ?_)
  refine s_nil ?_
  refine t_norm (hK1 _ _ ?_)
  refine wp_seq_k fun K5 hK5 => ?_
  refine wp_seq_k fun K6 hK6 => ?_
  refine c_region ?_
  refine s_op (o_assign (v := (.int .i64 0)) rfl ?_)
  refine s_nil ?_
  refine t_norm (hK6 _ _ ?_)
  refine wp_block ?_
  let I8 : Nat → (Nat → Value) → World → Prop := fun n__ r__ w__ => ∃ (k : Nat), n__ = L.length - k ∧ Has E w__ [[Hp.one b2 (.cells #[v_H, v_L] 86 (0, 0))], R] ∧ (k ≤ L.length) ∧ (∀ j, j < k → ∀ y, L[j]? = some y → (ownIs owner) y = false) ∧ r__ 0 = (.agg #[v_H, v_L]) ∧ r__ 1 = (.int .i64 owner) ∧ r__ 2 = (.pointer (some ⟨b2, 0, none⟩)) ∧ r__ 5 = (.int .i64 (k : Int))
  refine c_loop I8 _ ⟨0, rfl, hH4, Nat.zero_le _, fun j hj => by omega, rfl, rfl, rfl, rfl⟩ ?_
  rintro n_ r11 w9 ⟨k, rfl, hH10, hk, hf, e7_0, e7_1, e7_2, e7_5⟩
  refine wp_seq_k fun K12 hK12 => ?_
  refine wp_seq_k fun K13 hK13 => ?_
  refine c_region ?_
  refine s_op (o_move (v := (.int .i64 (k : Int))) e7_5 ?_)
  refine s_op (o_fieldAddr (k := 1) (fun _ => by kernel_rfl) e7_2 ?_)
  refine s_op (o_load1 (v := v_L) Try.underlying84 rfl rfl hH10 (seg_sub 0 rfl) (CellsAt.one rfl) ?_)
  refine s_op (o_lenS Try.underlying84 rfl h_L ?_)
  refine s_op (o_lss (a := (k : Int)) (b := ((L.length : Nat) : Int)) rfl rfl ?_)
  refine s_nil ?_
  refine t_norm (hK13 _ _ ?_)
  refine c_cond rfl (fun h14 => ?_) (fun h14 => ?_)
  · -- (k : Int) < ((L.length : Nat) : Int)
    refine wp_skip ?_
    refine t_norm (hK12 _ _ ?_)
    refine wp_seq_k fun K15 hK15 => ?_
    refine wp_block ?_
    refine wp_seq_k fun K16 hK16 => ?_
    refine c_region ?_
    refine s_op (o_fieldAddr (k := 1) (fun _ => by kernel_rfl) e7_2 ?_)
    refine s_op (o_load1 (v := v_L) Try.underlying84 rfl rfl hH10 (seg_sub 0 rfl) (CellsAt.one rfl) ?_)
    refine s_op (o_move (v := (.int .i64 (k : Int))) e7_5 ?_)
    obtain ⟨x20, hx21⟩ : ∃ x_, L[((k : Int)).toNat]? = some x_ := get_some (by omega)
    refine s_op (o_indexF rcC_len Try.underlying84 ti183 rfl h_L rfl rfl (by omega) hx21 fun b17 o18 hc19 => ?_)
    refine s_op (o_fieldAddr (k := o18) (fun _ => by kernel_rfl) rfl ?_)
    refine s_op (o_load1 (v := (.int .i64 x20.own)) Try.underlying3 rfl rfl hH10 (seg_sub 1 rfl) (CellsAt.field (k := 0) (ds := [(.int .i64 x20.own)]) hc19 rfl) ?_)
    refine s_op (o_move (v := (.int .i64 owner)) e7_1 ?_)
    refine s_op (o_eql (a := x20.own) (b := owner) rfl rfl ?_)
    refine s_nil ?_
    refine t_norm (hK16 _ _ ?_)
    refine c_cond rfl (fun h22 => ?_) (fun h22 => ?_)
    · -- x20.own = owner
      refine wp_seq_k fun K23 hK23 => ?_
      refine c_region ?_
      refine s_op (o_move (v := (.int .i64 (k : Int))) e7_5 ?_)
      refine s_op (o_assign (v := (.int .i64 (k : Int))) rfl ?_)
      refine s_nil ?_
      refine t_norm (hK23 _ _ ?_)
      refine wp_ret ?_
      refine b_ret (t_ret (t_ret (b_ret (t_ret (c_ret1 Try.results101  (v := (.int .i64 (k : Int))) rfl ?_)))))
      have q24 : (idxG (ownIs owner) L) = (k : Int) := by exact idxG_some hf (show L[k]? = some _ from hx21) (decide_eq_true h22)
      have hH25 : Has E w9 [R] := (hH10.front 1 rfl).first 1 rfl
      exact ⟨by rw [q24], hH25⟩
    · -- not: x20.own = owner
      refine wp_skip ?_
      refine b_norm ?_
      refine t_norm (hK15 _ _ ?_)
      refine c_region ?_
      refine s_op (o_move (v := (.int .i64 (k : Int))) e7_5 ?_)
      refine s_op (o_add (a := (k : Int)) (b := 1) rfl rfl (w64 (by omega) (by omega)) ?_)
      refine s_op (o_assign (v := (.int .i64 ((k : Int) + 1))) rfl ?_)
      refine s_nil ?_
      refine t_norm ⟨L.length - (k + 1), _, rfl, ?_, ?_⟩
      · omega
      · exact ⟨(k + 1), rfl, hH10, (by omega), (nof_step hf (show L[k]? = some _ from hx21) (decide_eq_false h22)), e7_0, e7_1, e7_2, rfl⟩
  · -- not: (k : Int) < ((L.length : Nat) : Int)
    refine wp_exit ?_
    refine t_exit (t_exit (x_in (?_)))
    refine t_norm (hK5 _ _ ?_)
    refine wp_seq_k fun K26 hK26 => ?_
    refine c_region ?_
    refine s_op (o_assign (v := (.int .i64 (-1))) rfl ?_)
    refine s_nil ?_
    refine t_norm (hK26 _ _ ?_)
    refine wp_ret ?_
    refine c_ret1 Try.results101  (v := (.int .i64 (-1))) rfl ?_
    have q27 : (idxG (ownIs owner) L) = -1 := by exact nof_end hf (by omega)
    have hH28 : Has E w9 [R] := (hH10.front 1 rfl).first 1 rfl
    exact ⟨by rw [q27], hH28⟩
set_option maxHeartbeats 4000000 in
theorem rfirst_c {E w : World} {R : List Hp} {v_H : Value} {H : List Plc} {v_L : Value} {L : List Plc} {key : Bs}  (hH : Has E w [R]) (h_H : Sl R 3 v_H H.length (H.flatMap rcC)) (h_L : Sl R 3 v_L L.length (L.flatMap rcC)) :
    Calls Try.prog 142 #[(.agg #[v_H, v_L]), (S key)] w fun e w' => e = .returned (.int .i64 (idxG (keyIs key) L)) ∧ Has E w' [R] := by
  have hn_ := h_L.le
  refine c_enter (args := [(.agg #[v_H, v_L]), (S key)]) Try.func142 rfl Try.ntmps142 (by simp) ?_
  refine wp_seq_k fun K1 hK1 => ?_
  refine c_region ?_
  refine s_op (o_box (cs := #[v_H, v_L]) rfl rfl hH fun b2 w3 hH4 => ?_)
  refine s_op (o_assign (v := (.int .i64 0)) rfl ?_)
  refine s_nil ?_
  refine t_norm (hK1 _ _ ?_)
  refine wp_seq_k fun K5 hK5 => ?_
  refine wp_seq_k fun K6 hK6 => ?_
  refine c_region ?_
  refine s_op (o_assign (v := (.int .i64 0)) rfl ?_)
  refine s_nil ?_
  refine t_norm (hK6 _ _ ?_)
  refine wp_block ?_
  let I8 : Nat → (Nat → Value) → World → Prop := fun n__ r__ w__ => ∃ (k : Nat), n__ = L.length - k ∧ Has E w__ [[Hp.one b2 (.cells #[v_H, v_L] 86 (0, 0))], R] ∧ (k ≤ L.length) ∧ (∀ j, j < k → ∀ y, L[j]? = some y → (keyIs key) y = false) ∧ r__ 0 = (.agg #[v_H, v_L]) ∧ r__ 1 = (S key) ∧ r__ 2 = (.pointer (some ⟨b2, 0, none⟩)) ∧ r__ 5 = (.int .i64 (k : Int))
  refine c_loop I8 _ ⟨0, rfl, hH4, Nat.zero_le _, fun j hj => by omega, rfl, rfl, rfl, rfl⟩ ?_
  rintro n_ r11 w9 ⟨k, rfl, hH10, hk, hf, e7_0, e7_1, e7_2, e7_5⟩
  refine wp_seq_k fun K12 hK12 => ?_
  refine wp_seq_k fun K13 hK13 => ?_
  refine c_region ?_
  refine s_op (o_move (v := (.int .i64 (k : Int))) e7_5 ?_)
  refine s_op (o_fieldAddr (k := 1) (fun _ => by kernel_rfl) e7_2 ?_)
  refine s_op (o_load1 (v := v_L) Try.underlying84 rfl rfl hH10 (seg_sub 0 rfl) (CellsAt.one rfl) ?_)
  refine s_op (o_lenS Try.underlying84 rfl h_L ?_)
  refine s_op (o_lss (a := (k : Int)) (b := ((L.length : Nat) : Int)) rfl rfl ?_)
  refine s_nil ?_
  refine t_norm (hK13 _ _ ?_)
  refine c_cond rfl (fun h14 => ?_) (fun h14 => ?_)
  · -- (k : Int) < ((L.length : Nat) : Int)
    refine wp_skip ?_
    refine t_norm (hK12 _ _ ?_)
    refine wp_seq_k fun K15 hK15 => ?_
    refine wp_block ?_
    refine wp_seq_k fun K16 hK16 => ?_
    refine c_region ?_
    refine s_op (o_fieldAddr (k := 1) (fun _ => by kernel_rfl) e7_2 ?_)
    refine s_op (o_load1 (v := v_L) Try.underlying84 rfl rfl hH10 (seg_sub 0 rfl) (CellsAt.one rfl) ?_)
    refine s_op (o_move (v := (.int .i64 (k : Int))) e7_5 ?_)
    obtain ⟨x20, hx21⟩ : ∃ x_, L[((k : Int)).toNat]? = some x_ := get_some (by omega)
    refine s_op (o_indexF rcC_len Try.underlying84 ti183 rfl h_L rfl rfl (by omega) hx21 fun b17 o18 hc19 => ?_)
    refine s_op (o_fieldAddr (k := o18 + 1) (fun _ => by kernel_rfl) rfl ?_)
    refine s_op (o_load1 (v := (S x20.key)) Try.underlying9 rfl rfl hH10 (seg_sub 1 rfl) (CellsAt.field (k := 1) (ds := [(S x20.key)]) hc19 rfl) ?_)
    refine s_op (o_move (v := (S key)) e7_1 ?_)
    refine s_op (o_seql (a := x20.key) (b := key) rfl rfl ?_)
    refine s_nil ?_
    refine t_norm (hK16 _ _ ?_)
    refine c_cond rfl (fun h22 => ?_) (fun h22 => ?_)
    · -- x20.key = key
      refine wp_seq_k fun K23 hK23 => ?_
      refine c_region ?_
      refine s_op (o_move (v := (.int .i64 (k : Int))) e7_5 ?_)
      refine s_op (o_assign (v := (.int .i64 (k : Int))) rfl ?_)
      refine s_nil ?_
      refine t_norm (hK23 _ _ ?_)
      refine wp_ret ?_
      refine b_ret (t_ret (t_ret (b_ret (t_ret (c_ret1 Try.results142  (v := (.int .i64 (k : Int))) rfl ?_)))))
      have q24 : (idxG (keyIs key) L) = (k : Int) := by exact idxG_some hf (show L[k]? = some _ from hx21) (decide_eq_true h22)
      have hH25 : Has E w9 [R] := (hH10.front 1 rfl).first 1 rfl
      exact ⟨by rw [q24], hH25⟩
    · -- not: x20.key = key
      refine wp_skip ?_
      refine b_norm ?_
      refine t_norm (hK15 _ _ ?_)
      refine c_region ?_
      refine s_op (o_move (v := (.int .i64 (k : Int))) e7_5 ?_)
      refine s_op (o_add (a := (k : Int)) (b := 1) rfl rfl (w64 (by omega) (by omega)) ?_)
      refine s_op (o_assign (v := (.int .i64 ((k : Int) + 1))) rfl ?_)
      refine s_nil ?_
      refine t_norm ⟨L.length - (k + 1), _, rfl, ?_, ?_⟩
      · omega
      · exact ⟨(k + 1), rfl, hH10, (by omega), (nof_step hf (show L[k]? = some _ from hx21) (decide_eq_false h22)), e7_0, e7_1, e7_2, rfl⟩
  · -- not: (k : Int) < ((L.length : Nat) : Int)
    refine wp_exit ?_
    refine t_exit (t_exit (x_in (?_)))
    refine t_norm (hK5 _ _ ?_)
    refine wp_seq_k fun K26 hK26 => ?_
    refine c_region ?_
    refine s_op (o_assign (v := (.int .i64 (-1))) rfl ?_)
    refine s_nil ?_
    refine t_norm (hK26 _ _ ?_)
    refine wp_ret ?_
    refine c_ret1 Try.results142  (v := (.int .i64 (-1))) rfl ?_
    have q27 : (idxG (keyIs key) L) = -1 := by exact nof_end hf (by omega)
    have hH28 : Has E w9 [R] := (hH10.front 1 rfl).first 1 rfl
    exact ⟨by rw [q27], hH28⟩
set_option maxHeartbeats 4000000 in
theorem rfree_c {E w : World} {R : List Hp} {v_H : Value} {H : List Plc} {v_L : Value} {L : List Plc} {c : Plc}  (hH : Has E w [R]) (h_H : Sl R 3 v_H H.length (H.flatMap rcC)) (h_L : Sl R 3 v_L L.length (L.flatMap rcC)) :
    Calls Try.prog 137 #[(.agg #[v_H, v_L]), (.agg #[(.int .i64 c.own), (S c.key), (.bool c.wr)])] w fun e w' => e = .returned (.bool (freeR H c)) ∧ Has E w' [R] := by
  have hn_ := h_H.le
  refine c_enter (args := [(.agg #[v_H, v_L]), (.agg #[(.int .i64 c.own), (S c.key), (.bool c.wr)])]) Try.func137 rfl Try.ntmps137 (by simp) ?_
  refine wp_seq_k fun K1 hK1 => ?_
  refine c_region ?_
  refine s_op (o_box (cs := #[v_H, v_L]) rfl rfl hH fun b2 w3 hH4 => ?_)
  refine s_op (o_box (cs := #[(.int .i64 c.own), (S c.key), (.bool c.wr)]) rfl rfl hH4 fun b5 w6 hH7 => ?_)
  refine s_op (o_assign (v := (.bool false)) rfl ?_)
  refine s_nil ?_
  refine t_norm (hK1 _ _ ?_)
  refine wp_seq_k fun K8 hK8 => ?_
  refine wp_seq_k fun K9 hK9 => ?_
  refine c_region ?_
  refine s_op (o_assign (v := (.int .i64 0)) rfl ?_)
  refine s_nil ?_
  refine t_norm (hK9 _ _ ?_)
  refine wp_block ?_
  let I11 : Nat → (Nat → Value) → World → Prop := fun n__ r__ w__ => ∃ (k : Nat), n__ = H.length - k ∧ Has E w__ [[Hp.one b5 (.cells #[(.int .i64 c.own), (S c.key), (.bool c.wr)] 183 (0, 0))], [Hp.one b2 (.cells #[v_H, v_L] 86 (0, 0))], R] ∧ (k ≤ H.length) ∧ (∀ j, j < k → ∀ y, H[j]? = some y → (badC c) y = false) ∧ r__ 0 = (.agg #[v_H, v_L]) ∧ r__ 1 = (.agg #[(.int .i64 c.own), (S c.key), (.bool c.wr)]) ∧ r__ 2 = (.pointer (some ⟨b2, 0, none⟩)) ∧ r__ 3 = (.pointer (some ⟨b5, 0, none⟩)) ∧ r__ 5 = (.int .i64 (k : Int))
  refine c_loop I11 _ ⟨0, rfl, hH7, Nat.zero_le _, fun j hj => by omega, rfl, rfl, rfl, rfl, rfl⟩ ?_
  rintro n_ r14 w12 ⟨k, rfl, hH13, hk, hf, e10_0, e10_1, e10_2, e10_3, e10_5⟩
  refine wp_seq_k fun K15 hK15 => ?_
  refine wp_seq_k fun K16 hK16 => ?_
  refine c_region ?_
  refine s_op (o_move (v := (.int .i64 (k : Int))) e10_5 ?_)
  refine s_op (o_fieldAddr (k := 0) (fun _ => by kernel_rfl) e10_2 ?_)
  refine s_op (o_load1 (v := v_H) Try.underlying84 rfl rfl hH13 (seg_sub 1 rfl) (CellsAt.one rfl) ?_)
  refine s_op (o_lenS Try.underlying84 rfl h_H ?_)
  refine s_op (o_lss (a := (k : Int)) (b := ((H.length : Nat) : Int)) rfl rfl ?_)
  refine s_nil ?_
  refine t_norm (hK16 _ _ ?_)
  refine c_cond rfl (fun h17 => ?_) (fun h17 => ?_)
  · -- (k : Int) < ((H.length : Nat) : Int)
    refine wp_skip ?_
    refine t_norm (hK15 _ _ ?_)
    refine wp_seq_k fun K18 hK18 => ?_
    refine wp_block ?_
    refine wp_seq_k fun K19 hK19 => ?_
    refine c_region ?_
    refine s_op (o_fieldAddr (k := 0) (fun _ => by kernel_rfl) e10_2 ?_)
    refine s_op (o_load1 (v := v_H) Try.underlying84 rfl rfl hH13 (seg_sub 1 rfl) (CellsAt.one rfl) ?_)
    refine s_op (o_move (v := (.int .i64 (k : Int))) e10_5 ?_)
    obtain ⟨x23, hx24⟩ : ∃ x_, H[((k : Int)).toNat]? = some x_ := get_some (by omega)
    refine s_op (o_indexF rcC_len Try.underlying84 ti183 rfl h_H rfl rfl (by omega) hx24 fun b20 o21 hc22 => ?_)
    refine s_op (o_loadN (cs := [(.int .i64 x23.own), (S x23.key), (.bool x23.wr)]) Try.underlying183 rfl ti183 rfl hH13 (seg_sub 2 rfl) hc22 ?_)
    refine s_op (o_alloc (cs := #[(.int .i64 0), (S ([] : List UInt8)), (.bool false)]) ti183 rfl hH13 fun b25 w26 hH27 => ?_)
    refine s_eff (o_storeN (vs := [(.int .i64 x23.own), (S x23.key), (.bool x23.wr)]) (c' := #[(.int .i64 x23.own), (S x23.key), (.bool x23.wr)]) ti183 rfl rfl rfl rfl (by intro u hu; simp only [List.mem_cons, List.not_mem_nil, or_false] at hu; rcases hu with rfl | rfl | rfl <;> first | rfl) (by simp) (by kernel_rfl) (hH27.front 0 rfl) fun w28 hH29 => ?_)
    refine s_nil ?_
    refine t_norm (hK19 _ _ ?_)
    refine wp_seq_k fun K30 hK30 => ?_
    refine c_region ?_
    refine s_op (o_fieldAddr (k := 1) (fun _ => by kernel_rfl) rfl ?_)
    refine s_op (o_load1 (v := (S x23.key)) Try.underlying9 rfl rfl hH29 (seg_sub 0 rfl) (CellsAt.one rfl) ?_)
    refine s_op (o_fieldAddr (k := 1) (fun _ => by kernel_rfl) e10_3 ?_)
    refine s_op (o_load1 (v := (S c.key)) Try.underlying9 rfl rfl hH29 (seg_sub 1 rfl) (CellsAt.one rfl) ?_)
    refine s_op (o_seql (a := x23.key) (b := c.key) rfl rfl ?_)
    refine s_op (o_move (v := (.bool (decide (x23.key = c.key)))) rfl ?_)
    by_cases h31 : x23.key = c.key
    · -- x23.key = c.key
      refine s_on 24 rfl (congrArg Value.bool (decide_eq_true h31)) (o_fieldAddr (k := 0) (fun _ => by kernel_rfl) rfl ?_)
      refine s_on 24 rfl (congrArg Value.bool (decide_eq_true h31)) (o_load1 (v := (.int .i64 x23.own)) Try.underlying3 rfl rfl hH29 (seg_sub 0 rfl) (CellsAt.one rfl) ?_)
      refine s_on 24 rfl (congrArg Value.bool (decide_eq_true h31)) (o_fieldAddr (k := 0) (fun _ => by kernel_rfl) e10_3 ?_)
      refine s_on 24 rfl (congrArg Value.bool (decide_eq_true h31)) (o_load1 (v := (.int .i64 c.own)) Try.underlying3 rfl rfl hH29 (seg_sub 1 rfl) (CellsAt.one rfl) ?_)
      refine s_on 24 rfl (congrArg Value.bool (decide_eq_true h31)) (o_neq (a := x23.own) (b := c.own) rfl rfl ?_)
      refine s_op (o_pick_t (u := (.bool (decide (x23.own ≠ c.own)))) ((rfl : _ = _).trans (congrArg Value.bool (decide_eq_true h31))) rfl ?_)
      refine s_op (o_move (v := (.bool (decide (x23.own ≠ c.own)))) rfl ?_)
      by_cases h32 : x23.own ≠ c.own
      · -- x23.own ≠ c.own
        refine s_on 31 rfl (congrArg Value.bool (decide_eq_true h32)) (o_fieldAddr (k := 2) (fun _ => by kernel_rfl) rfl ?_)
        refine s_on 31 rfl (congrArg Value.bool (decide_eq_true h32)) (o_load1 (v := (.bool x23.wr)) Try.underlying4 rfl rfl hH29 (seg_sub 0 rfl) (CellsAt.one rfl) ?_)
        refine s_on 31 rfl (congrArg Value.bool (decide_eq_true h32)) (o_move (v := (.bool x23.wr)) rfl ?_)
        rcases Bool.eq_false_or_eq_true x23.wr with h33 | h33
        · -- x23.wr
          refine s_off (b' := true) 34 rfl (congrArg Value.bool h33) rfl ?_
          refine s_off (b' := true) 34 rfl (congrArg Value.bool h33) rfl ?_
          refine s_on 31 rfl (congrArg Value.bool (decide_eq_true h32)) (o_pick_t (u := (.bool true)) ((rfl : _ = _).trans (congrArg Value.bool h33)) rfl ?_)
          refine s_op (o_pick_t (u := (.bool true)) ((rfl : _ = _).trans (congrArg Value.bool (decide_eq_true h32))) rfl ?_)
          refine s_nil ?_
          refine t_norm (hK30 _ _ ?_)
          refine c_true rfl rfl ?_
          refine wp_seq_k fun K34 hK34 => ?_
          refine c_region ?_
          refine s_op (o_assign (v := (.bool false)) rfl ?_)
          refine s_nil ?_
          refine t_norm (hK34 _ _ ?_)
          refine wp_ret ?_
          refine b_ret (t_ret (t_ret (b_ret (t_ret (c_ret1 Try.results137  (v := (.bool false)) rfl ?_)))))
          have q35 : (freeR H c) = false := by exact free_not (show H[k]? = some _ from hx24) (by simp [badC, keyIs, clashS, h31, h32, h33])
          have hH36 : Has E w28 [R] := (hH29.front 3 rfl).first 1 rfl
          exact ⟨by rw [q35], hH36⟩
        · -- not: x23.wr
          refine s_on 34 rfl (congrArg Value.bool h33) (o_fieldAddr (k := 2) (fun _ => by kernel_rfl) e10_3 ?_)
          refine s_on 34 rfl (congrArg Value.bool h33) (o_load1 (v := (.bool c.wr)) Try.underlying4 rfl rfl hH29 (seg_sub 1 rfl) (CellsAt.one rfl) ?_)
          refine s_on 31 rfl (congrArg Value.bool (decide_eq_true h32)) (o_pick_f (u := (.bool c.wr)) ((rfl : _ = _).trans (congrArg Value.bool h33)) rfl ?_)
          refine s_op (o_pick_t (u := (.bool c.wr)) ((rfl : _ = _).trans (congrArg Value.bool (decide_eq_true h32))) rfl ?_)
          refine s_nil ?_
          refine t_norm (hK30 _ _ ?_)
          refine c_condb rfl (fun h37 => ?_) (fun h37 => ?_)
          · -- c.wr
            refine wp_seq_k fun K38 hK38 => ?_
            refine c_region ?_
            refine s_op (o_assign (v := (.bool false)) rfl ?_)
            refine s_nil ?_
            refine t_norm (hK38 _ _ ?_)
            refine wp_ret ?_
            refine b_ret (t_ret (t_ret (b_ret (t_ret (c_ret1 Try.results137  (v := (.bool false)) rfl ?_)))))
            have q39 : (freeR H c) = false := by exact free_not (show H[k]? = some _ from hx24) (by simp [badC, keyIs, clashS, h31, h32, h33, h37])
            have hH40 : Has E w28 [R] := (hH29.front 3 rfl).first 1 rfl
            exact ⟨by rw [q39], hH40⟩
          · -- not: c.wr
            refine wp_skip ?_
            refine b_norm ?_
            refine t_norm (hK18 _ _ ?_)
            refine c_region ?_
            refine s_op (o_move (v := (.int .i64 (k : Int))) e10_5 ?_)
            refine s_op (o_add (a := (k : Int)) (b := 1) rfl rfl (w64 (by omega) (by omega)) ?_)
            refine s_op (o_assign (v := (.int .i64 ((k : Int) + 1))) rfl ?_)
            refine s_nil ?_
            have hH41 : Has E w28 [[Hp.one b5 (.cells #[(.int .i64 c.own), (S c.key), (.bool c.wr)] 183 (0, 0))], [Hp.one b2 (.cells #[v_H, v_L] 86 (0, 0))], R] := (((hH29.front 3 rfl).front 3 rfl).front 3 rfl).first 3 rfl
            refine t_norm ⟨H.length - (k + 1), _, rfl, ?_, ?_⟩
            · omega
            · exact ⟨(k + 1), rfl, hH41, (by omega), (nof_step hf (show H[k]? = some _ from hx24) (by simp [badC, keyIs, clashS, h31, h32, h33, h37])), e10_0, e10_1, e10_2, e10_3, rfl⟩
      · -- not: x23.own ≠ c.own
        refine s_off (b' := false) 31 rfl (congrArg Value.bool (decide_eq_false h32)) rfl ?_
        refine s_off (b' := false) 31 rfl (congrArg Value.bool (decide_eq_false h32)) rfl ?_
        refine s_off (b' := false) 31 rfl (congrArg Value.bool (decide_eq_false h32)) rfl ?_
        refine s_offu 34 rfl rfl ?_
        refine s_offu 34 rfl rfl ?_
        refine s_off (b' := false) 31 rfl (congrArg Value.bool (decide_eq_false h32)) rfl ?_
        refine s_op (o_pick_f (u := (.bool false)) ((rfl : _ = _).trans (congrArg Value.bool (decide_eq_false h32))) rfl ?_)
        refine s_nil ?_
        refine t_norm (hK30 _ _ ?_)
        refine c_false rfl rfl ?_
        refine wp_skip ?_
        refine b_norm ?_
        refine t_norm (hK18 _ _ ?_)
        refine c_region ?_
        refine s_op (o_move (v := (.int .i64 (k : Int))) e10_5 ?_)
        refine s_op (o_add (a := (k : Int)) (b := 1) rfl rfl (w64 (by omega) (by omega)) ?_)
        refine s_op (o_assign (v := (.int .i64 ((k : Int) + 1))) rfl ?_)
        refine s_nil ?_
        have hH42 : Has E w28 [[Hp.one b5 (.cells #[(.int .i64 c.own), (S c.key), (.bool c.wr)] 183 (0, 0))], [Hp.one b2 (.cells #[v_H, v_L] 86 (0, 0))], R] := (((hH29.front 3 rfl).front 3 rfl).front 3 rfl).first 3 rfl
        refine t_norm ⟨H.length - (k + 1), _, rfl, ?_, ?_⟩
        · omega
        · exact ⟨(k + 1), rfl, hH42, (by omega), (nof_step hf (show H[k]? = some _ from hx24) (by simp [badC, keyIs, clashS, h31, h32])), e10_0, e10_1, e10_2, e10_3, rfl⟩
    · -- not: x23.key = c.key
      refine s_off (b' := false) 24 rfl (congrArg Value.bool (decide_eq_false h31)) rfl ?_
      refine s_off (b' := false) 24 rfl (congrArg Value.bool (decide_eq_false h31)) rfl ?_
      refine s_off (b' := false) 24 rfl (congrArg Value.bool (decide_eq_false h31)) rfl ?_
      refine s_off (b' := false) 24 rfl (congrArg Value.bool (decide_eq_false h31)) rfl ?_
      refine s_off (b' := false) 24 rfl (congrArg Value.bool (decide_eq_false h31)) rfl ?_
      refine s_op (o_pick_f (u := (.bool false)) ((rfl : _ = _).trans (congrArg Value.bool (decide_eq_false h31))) rfl ?_)
      refine s_op (o_move (v := (.bool false)) rfl ?_)
      refine s_off (b' := false) 31 rfl rfl rfl ?_
      refine s_off (b' := false) 31 rfl rfl rfl ?_
      refine s_off (b' := false) 31 rfl rfl rfl ?_
      refine s_offu 34 rfl rfl ?_
      refine s_offu 34 rfl rfl ?_
      refine s_off (b' := false) 31 rfl rfl rfl ?_
      refine s_op (o_pick_f (u := (.bool false)) rfl rfl ?_)
      refine s_nil ?_
      refine t_norm (hK30 _ _ ?_)
      refine c_false rfl rfl ?_
      refine wp_skip ?_
      refine b_norm ?_
      refine t_norm (hK18 _ _ ?_)
      refine c_region ?_
      refine s_op (o_move (v := (.int .i64 (k : Int))) e10_5 ?_)
      refine s_op (o_add (a := (k : Int)) (b := 1) rfl rfl (w64 (by omega) (by omega)) ?_)
      refine s_op (o_assign (v := (.int .i64 ((k : Int) + 1))) rfl ?_)
      refine s_nil ?_
      have hH43 : Has E w28 [[Hp.one b5 (.cells #[(.int .i64 c.own), (S c.key), (.bool c.wr)] 183 (0, 0))], [Hp.one b2 (.cells #[v_H, v_L] 86 (0, 0))], R] := (((hH29.front 3 rfl).front 3 rfl).front 3 rfl).first 3 rfl
      refine t_norm ⟨H.length - (k + 1), _, rfl, ?_, ?_⟩
      · omega
      · exact ⟨(k + 1), rfl, hH43, (by omega), (nof_step hf (show H[k]? = some _ from hx24) (by simp [badC, keyIs, clashS, h31])), e10_0, e10_1, e10_2, e10_3, rfl⟩
  · -- not: (k : Int) < ((H.length : Nat) : Int)
    refine wp_exit ?_
    refine t_exit (t_exit (x_in (?_)))
    refine t_norm (hK8 _ _ ?_)
    refine wp_seq_k fun K44 hK44 => ?_
    refine c_region ?_
    refine s_op (o_assign (v := (.bool true)) rfl ?_)
    refine s_nil ?_
    refine t_norm (hK44 _ _ ?_)
    refine wp_ret ?_
    refine c_ret1 Try.results137  (v := (.bool true)) rfl ?_
    have q45 : (freeR H c) = true := by exact free_end hf (by omega)
    have hH46 : Has E w12 [R] := (hH13.front 2 rfl).first 1 rfl
    exact ⟨by rw [q45], hH46⟩
set_option maxHeartbeats 4000000 in
theorem rwith_c {E w : World} {R : List Hp} {v_l : Value} {l : List Plc} {ix : Int} {c : Plc}  (hH : Has E w [R]) (h_l : Sl R 3 v_l l.length (l.flatMap rcC)) (hix : 0 ≤ ix ∧ ix ≤ l.length) (hn : l.length ≤ 1000000) :
    Calls Try.prog 139 #[v_l, (.int .i64 ix), (.agg #[(.int .i64 c.own), (S c.key), (.bool c.wr)])] w fun e w' => ∃ (v1' : Value) (s2' : List Hp), e = .returned v1' ∧ (Own 183 3 v1' (insAt l ix.toNat c).length ((insAt l ix.toNat c).flatMap rcC) s2') ∧ Has E w' [s2', R] := by
  obtain ⟨hx1_, hx2_⟩ := hix
  refine c_enter (args := [v_l, (.int .i64 ix), (.agg #[(.int .i64 c.own), (S c.key), (.bool c.wr)])]) Try.func139 rfl Try.ntmps139 (by simp) ?_
  refine wp_seq_k fun K1 hK1 => ?_
  refine c_region ?_
  refine s_op (o_box (cs := #[(.int .i64 c.own), (S c.key), (.bool c.wr)]) rfl rfl hH fun b2 w3 hH4 => ?_)
  refine s_op (o_assign (v := (.slice none 0 0)) rfl ?_)
  refine s_nil ?_
  refine t_norm (hK1 _ _ ?_)
  refine wp_seq_k fun K5 hK5 => ?_
  refine c_region ?_
  refine s_op (o_assign (v := (.slice none 0 0)) rfl ?_)
  refine s_nil ?_
  refine t_norm (hK5 _ _ ?_)
  refine wp_seq_k fun K6 hK6 => ?_
  refine c_region ?_
  refine s_op (o_move (v := (.slice none 0 0)) rfl ?_)
  refine s_op (o_move (v := v_l) rfl ?_)
  refine s_op (o_move (v := (.int .i64 ix)) rfl ?_)
  refine s_op (o_slh Try.underlying84 ti183 rfl h_l rfl (by omega) (by omega) ?_)
  refine s_op (o_append Try.underlying84 ti183 rfl (by decide) rfl (Own.nil 183 3) rfl (sl_headf (f := rcC) (fun _ => rfl) h_l (show (ix).toNat ≤ l.length by omega)) (Has.nil hH4) (seg_sub 1 rfl) (one_rcC _) (by simp; omega) (by simp; omega) fun v7 s8 w10 ho9 hH11 => ?_)
  have ho9 : Own 183 3 v7 (l.take (ix).toNat).length ((l.take (ix).toNat).flatMap rcC) s8 := Own.appF (a := []) ho9
  refine s_op (o_assign (v := v7) rfl ?_)
  refine s_nil ?_
  refine t_norm (hK6 _ _ ?_)
  refine wp_seq_k fun K12 hK12 => ?_
  refine c_region ?_
  refine s_op (o_move (v := v7) rfl ?_)
  refine s_op (o_loadN (cs := [(.int .i64 c.own), (S c.key), (.bool c.wr)]) Try.underlying183 rfl ti183 rfl hH11 (seg_sub 1 rfl) (CellsAt.one rfl) ?_)
  refine s_op (o_buildSlice (ps := #[(0, (.agg #[(.int .i64 c.own), (S c.key), (.bool c.wr)]))]) (cells := #[(.int .i64 c.own), (S c.key), (.bool c.wr)]) Try.underlying84 ti183 (by decide) (parts1 rfl) (by kernel_rfl) hH11 fun b13 w14 hH15 => ?_)
  refine s_op (o_append Try.underlying84 ti183 rfl (by decide) rfl ho9 rfl (sl_litF (f := rcC) (l := [c]) rcC_len rfl rfl (by simp)) (hH15.front 1 rfl) (seg_sub 0 rfl) (one_rcC _) (by simp; omega) (by simp; omega) fun v16 s17 w19 ho18 hH20 => ?_)
  have ho18 : Own 183 3 v16 ((l.take (ix).toNat) ++ [c]).length (((l.take (ix).toNat) ++ [c]).flatMap rcC) s17 := ho18.appF
  refine s_op (o_assign (v := v16) rfl ?_)
  refine s_nil ?_
  refine t_norm (hK12 _ _ ?_)
  refine wp_seq_k fun K21 hK21 => ?_
  refine c_region ?_
  refine s_op (o_move (v := v16) rfl ?_)
  refine s_op (o_move (v := v_l) rfl ?_)
  refine s_op (o_move (v := (.int .i64 ix)) rfl ?_)
  refine s_op (o_sl_l Try.underlying84 ti183 rfl h_l rfl (by omega) (by omega) fun v22 hv23 => ?_)
  have hv24 := sl_dropF rcC_len hv23
  refine s_op (o_append Try.underlying84 ti183 rfl (by decide) rfl ho18 rfl hv24 (hH20.front 0 rfl) (seg_sub 2 rfl) (one_rcC _) (by simp; omega) (by simp; omega) fun v25 s26 w28 ho27 hH29 => ?_)
  have ho27 : Own 183 3 v25 (((l.take (ix).toNat) ++ [c]) ++ (l.drop (ix).toNat)).length ((((l.take (ix).toNat) ++ [c]) ++ (l.drop (ix).toNat)).flatMap rcC) s26 := ho27.appF
  refine s_op (o_assign (v := v25) rfl ?_)
  refine s_nil ?_
  refine t_norm (hK21 _ _ ?_)
  refine wp_ret ?_
  refine c_ret1 Try.results139  (v := v25) rfl ?_
  have q30 : (insAt l ix.toNat c) = ((l.take (ix).toNat) ++ [c]) ++ (l.drop (ix).toNat) := by unfold insAt; rfl
  have hH31 : Has E w28 [s26, R] := ((hH29.front 3 rfl).front 1 rfl).first 2 rfl
  exact ⟨_, _, rfl, (by rw [q30]; exact ho27), hH31⟩
set_option maxHeartbeats 4000000 in
theorem rwithout_c {E w : World} {R : List Hp} {v_l : Value} {l : List Plc} {ix : Int}  (hH : Has E w [R]) (h_l : Sl R 3 v_l l.length (l.flatMap rcC)) (hix : 0 ≤ ix ∧ ix < l.length) (hn : l.length ≤ 1000000) :
    Calls Try.prog 143 #[v_l, (.int .i64 ix)] w fun e w' => ∃ (v1' : Value) (s2' : List Hp), e = .returned v1' ∧ (Own 183 3 v1' (l.eraseIdx ix.toNat).length ((l.eraseIdx ix.toNat).flatMap rcC) s2') ∧ Has E w' [s2', R] := by
  obtain ⟨hx1_, hx2_⟩ := hix
  refine c_enter (args := [v_l, (.int .i64 ix)]) Try.func143 rfl Try.ntmps143 (by simp) ?_
  refine wp_seq_k fun K1 hK1 => ?_
  refine c_region ?_
  refine s_op (o_assign (v := (.slice none 0 0)) rfl ?_)
  refine s_nil ?_
  refine t_norm (hK1 _ _ ?_)
  refine wp_seq_k fun K2 hK2 => ?_
  refine c_region ?_
  refine s_op (o_assign (v := (.slice none 0 0)) rfl ?_)
  refine s_nil ?_
  refine t_norm (hK2 _ _ ?_)
  refine wp_seq_k fun K3 hK3 => ?_
  refine c_region ?_
  refine s_op (o_move (v := (.slice none 0 0)) rfl ?_)
  refine s_op (o_move (v := v_l) rfl ?_)
  refine s_op (o_move (v := (.int .i64 ix)) rfl ?_)
  refine s_op (o_slh Try.underlying84 ti183 rfl h_l rfl (by omega) (by omega) ?_)
  refine s_op (o_append Try.underlying84 ti183 rfl (by decide) rfl (Own.nil 183 3) rfl (sl_headf (f := rcC) (fun _ => rfl) h_l (show (ix).toNat ≤ l.length by omega)) (Has.nil hH) (seg_sub 0 rfl) (one_rcC _) (by simp; omega) (by simp; omega) fun v4 s5 w7 ho6 hH8 => ?_)
  have ho6 : Own 183 3 v4 (l.take (ix).toNat).length ((l.take (ix).toNat).flatMap rcC) s5 := Own.appF (a := []) ho6
  refine s_op (o_assign (v := v4) rfl ?_)
  refine s_nil ?_
  refine t_norm (hK3 _ _ ?_)
  refine wp_seq_k fun K9 hK9 => ?_
  refine c_region ?_
  refine s_op (o_move (v := v4) rfl ?_)
  refine s_op (o_move (v := v_l) rfl ?_)
  refine s_op (o_move (v := (.int .i64 ix)) rfl ?_)
  refine s_op (o_add (a := ix) (b := 1) rfl rfl (w64 (by omega) (by omega)) ?_)
  refine s_op (o_sl_l Try.underlying84 ti183 rfl h_l rfl (by omega) (by omega) fun v10 hv11 => ?_)
  have hv12 := sl_dropF rcC_len hv11
  refine s_op (o_append Try.underlying84 ti183 rfl (by decide) rfl ho6 rfl hv12 (hH8.front 0 rfl) (seg_sub 0 rfl) (one_rcC _) (by simp; omega) (by simp; omega) fun v13 s14 w16 ho15 hH17 => ?_)
  have ho15 : Own 183 3 v13 ((l.take (ix).toNat) ++ (l.drop (ix + 1).toNat)).length (((l.take (ix).toNat) ++ (l.drop (ix + 1).toNat)).flatMap rcC) s14 := ho15.appF
  refine s_op (o_assign (v := v13) rfl ?_)
  refine s_nil ?_
  refine t_norm (hK9 _ _ ?_)
  refine wp_ret ?_
  refine c_ret1 Try.results143  (v := v13) rfl ?_
  have q18 : (l.eraseIdx ix.toNat) = (l.take (ix).toNat) ++ (l.drop (ix + 1).toNat) := by rw [← eraseIdx_eq, show (ix + 1).toNat = ix.toNat + 1 from by omega]
  exact ⟨_, _, rfl, (by rw [q18]; exact ho15), hH17⟩
set_option maxHeartbeats 4000000 in
theorem rhold_c {E w : World} {R : List Hp} {v_H : Value} {H : List Plc} {v_L : Value} {L : List Plc} {c : Plc}  (hH : Has E w [R]) (h_H : Sl R 3 v_H H.length (H.flatMap rcC)) (h_L : Sl R 3 v_L L.length (L.flatMap rcC)) (hn : H.length ≤ 1000000) :
    Calls Try.prog 138 #[(.agg #[v_H, v_L]), (.agg #[(.int .i64 c.own), (S c.key), (.bool c.wr)])] w fun e w' => ∃ (v1' : Value) (s2' : List Hp), e = .returned (.agg #[v1', v_L]) ∧ (Own 183 3 v1' (holdR H c).length ((holdR H c).flatMap rcC) s2') ∧ Has E w' [s2', R] := by
  have hn_ := h_H.le
  have hfl_ := findC_lt H c.own c.key
  refine c_enter (args := [(.agg #[v_H, v_L]), (.agg #[(.int .i64 c.own), (S c.key), (.bool c.wr)])]) Try.func138 rfl Try.ntmps138 (by simp) ?_
  refine wp_seq_k fun K1 hK1 => ?_
  refine c_region ?_
  refine s_op (o_box (cs := #[v_H, v_L]) rfl rfl hH fun b2 w3 hH4 => ?_)
  refine s_op (o_box (cs := #[(.int .i64 c.own), (S c.key), (.bool c.wr)]) rfl rfl hH4 fun b5 w6 hH7 => ?_)
  refine s_op (o_alloc (cs := #[(.slice none 0 0), (.slice none 0 0)]) ti86 rfl hH7 fun b8 w9 hH10 => ?_)
  refine s_nil ?_
  refine t_norm (hK1 _ _ ?_)
  refine wp_seq_k fun K11 hK11 => ?_
  refine wp_seq_k fun K12 hK12 => ?_
  refine c_region ?_
  refine s_op (o_fieldAddr (k := 0) (fun _ => by kernel_rfl) rfl ?_)
  refine s_op (o_load1 (v := v_H) Try.underlying84 rfl rfl hH10 (seg_sub 2 rfl) (CellsAt.one rfl) ?_)
  refine s_op (o_fieldAddr (k := 0) (fun _ => by kernel_rfl) rfl ?_)
  refine s_op (o_load1 (v := (.int .i64 c.own)) Try.underlying3 rfl rfl hH10 (seg_sub 1 rfl) (CellsAt.one rfl) ?_)
  refine s_op (o_fieldAddr (k := 1) (fun _ => by kernel_rfl) rfl ?_)
  refine s_op (o_load1 (v := (S c.key)) Try.underlying9 rfl rfl hH10 (seg_sub 1 rfl) (CellsAt.one rfl) ?_)
  refine s_op (o_callf (vs := #[v_H, (.int .i64 c.own), (S c.key)]) ca136 rfl (args3 rfl rfl rfl) (rfind_c (l := H) (owner := c.own) (key := c.key) hH10.all (h_H.mono (seg_sub 3 rfl))) ?_)
  rintro _ w15 ⟨rfl, hX13⟩
  refine ⟨_, rfl, ?_⟩
  have hH14 := hX13.of_all
  have := findC_lt H c.own c.key
  refine s_op (o_assign (v := (.int .i64 (findC H c.own c.key))) rfl ?_)
  refine s_nil ?_
  refine t_norm (hK12 _ _ ?_)
  refine wp_seq_k fun K16 hK16 => ?_
  refine c_region ?_
  refine s_op (o_move (v := (.int .i64 (findC H c.own c.key))) rfl ?_)
  refine s_op (o_geq (a := (findC H c.own c.key)) (b := 0) rfl rfl ?_)
  refine s_nil ?_
  refine t_norm (hK16 _ _ ?_)
  refine c_cond rfl (fun h17 => ?_) (fun h17 => ?_)
  · -- 0 ≤ (findC H c.own c.key)
    refine wp_seq_k fun K18 hK18 => ?_
    refine Rest.region mixed (by kernel_rfl) ?_
    have hH19 : Has E { w15 with drawn := w15.drawn + 1 } [[Hp.one b8 (.cells #[(.slice none 0 0), (.slice none 0 0)] 86 (0, 0))], [Hp.one b5 (.cells #[(.int .i64 c.own), (S c.key), (.bool c.wr)] 183 (0, 0))], [Hp.one b2 (.cells #[v_H, v_L] 86 (0, 0))], R] := Has0.drew hH14 _
    refine Rest.phaseA (fun w_ => Has E w_ [[Hp.one b5 (.cells #[(.int .i64 c.own), (S c.key), (.bool c.wr)] 183 (0, 0))], [Hp.one b2 (.cells #[v_H, v_L] 86 (0, 0))]]) 0 6 6 rfl (by decide) (by kernel_rfl) ?_
    refine a_op 0 rfl (by kernel_rfl) (fun w_ h_ => o_fieldAddr (k := 0) (fun _ => by kernel_rfl) rfl ⟨rfl, rfl⟩) ?_
    refine a_op 1 rfl (by kernel_rfl) (fun w_ h_ => o_load1 (v := v_H) Try.underlying84 rfl rfl h_ (seg_sub 1 rfl) (CellsAt.one rfl) ⟨rfl, rfl⟩) ?_
    refine a_op 2 rfl (by kernel_rfl) (fun w_ h_ => o_move (v := (.int .i64 (findC H c.own c.key))) rfl ⟨rfl, rfl⟩) ?_
    refine a_op 4 rfl (by kernel_rfl) (fun w_ h_ => o_move (v := (.int .i64 (findC H c.own c.key))) rfl ⟨rfl, rfl⟩) ?_
    refine a_op 5 rfl (by kernel_rfl) (fun w_ h_ => o_loadN (cs := [(.int .i64 c.own), (S c.key), (.bool c.wr)]) Try.underlying183 rfl ti183 rfl h_ (seg_sub 0 rfl) (CellsAt.one rfl) ⟨rfl, rfl⟩) ?_
    have hH20 : Has E { w15 with drawn := w15.drawn + 1 } [[Hp.one b5 (.cells #[(.int .i64 c.own), (S c.key), (.bool c.wr)] 183 (0, 0))], [Hp.one b2 (.cells #[v_H, v_L] 86 (0, 0))]] := ((hH19.front 2 rfl).front 2 rfl).first 2 rfl
    refine a_w 3 rfl (by kernel_rfl) hH20 (o_callf (vs := #[v_H, (.int .i64 (findC H c.own c.key))]) ca143 rfl (args2 rfl rfl) (rwithout_c (l := H) (ix := (findC H c.own c.key)) hH19.all (h_H.mono (seg_sub 3 rfl)) (by first | omega | (simp only []; omega) | (simp; done) | (simp; omega)) (by first | omega | (simp only []; omega) | (simp; done) | (simp; omega))) ?_)
    rintro _ w26 ⟨v21, s22, rfl, ho23, hX24⟩
    refine ⟨_, rfl, ?_⟩
    have hH25 : Has E w26 [s22, [Hp.one b8 (.cells #[(.slice none 0 0), (.slice none 0 0)] 86 (0, 0))], [Hp.one b5 (.cells #[(.int .i64 c.own), (S c.key), (.bool c.wr)] 183 (0, 0))], [Hp.one b2 (.cells #[v_H, v_L] 86 (0, 0))], R] := hX24.of_all1
    have := er_len (show 0 ≤ (findC H c.own c.key) ∧ (findC H c.own c.key) < (H.length : Int) from by omega)
    have hH27 : Has E w26 [[Hp.one b5 (.cells #[(.int .i64 c.own), (S c.key), (.bool c.wr)] 183 (0, 0))], [Hp.one b2 (.cells #[v_H, v_L] 86 (0, 0))]] := ((hH25.front 3 rfl).front 3 rfl).first 2 rfl
    refine a_done (by kernel_rfl) hH27 ?_
    refine r_op 6 rfl (by kernel_rfl) (o_callf (vs := #[v21, (.int .i64 (findC H c.own c.key)), (.agg #[(.int .i64 c.own), (S c.key), (.bool c.wr)])]) ca139 rfl (args3 rfl rfl rfl) (rwith_c (l := (H.eraseIdx (findC H c.own c.key).toNat)) (ix := (findC H c.own c.key)) (c := c) hH25.all (ho23.sl.mono (seg_sub 0 rfl)) (by first | omega | (simp only []; omega) | (simp; done) | (simp; omega)) (by first | omega | (simp only []; omega) | (simp; done) | (simp; omega))) ?_)
    rintro _ w33 ⟨v28, s29, rfl, ho30, hX31⟩
    refine ⟨_, rfl, ?_⟩
    have hH32 : Has E w33 [s29, s22, [Hp.one b8 (.cells #[(.slice none 0 0), (.slice none 0 0)] 86 (0, 0))], [Hp.one b5 (.cells #[(.int .i64 c.own), (S c.key), (.bool c.wr)] 183 (0, 0))], [Hp.one b2 (.cells #[v_H, v_L] 86 (0, 0))], R] := hX31.of_all1
    refine r_op 7 rfl (by kernel_rfl) (o_fieldAddr (k := 0) (fun _ => by kernel_rfl) rfl ?_)
    refine r_eff 8 rfl (by kernel_rfl) (o_store1 (c' := #[v28, v_L]) ti84 rfl rfl ho30.one (by simp) rfl (hH32.front 4 rfl) fun w34 hH35 => ?_)
    refine Rest.done (by kernel_rfl) ?_
    refine t_norm (hK18 _ _ ?_)
    refine wp_seq_k fun K36 hK36 => ?_
    refine c_region ?_
    refine s_op (o_loadN (cs := [v28, v_L]) Try.underlying86 rfl ti86 rfl hH35 (seg_sub 0 rfl) (CellsAt.one rfl) ?_)
    refine s_eff (o_storeN (vs := [v28, v_L]) (c' := #[v28, v_L]) ti86 rfl rfl rfl rfl (by intro u hu; simp only [List.mem_cons, List.not_mem_nil, or_false] at hu; rcases hu with rfl | rfl <;> first | rfl | exact ho30.one | exact h_L.one) (by simp) (by kernel_rfl) (hH35.front 3 rfl) fun w37 hH38 => ?_)
    refine s_nil ?_
    refine t_norm (hK36 _ _ ?_)
    refine wp_ret ?_
    refine t_ret (c_retC1 Try.results138 rfl (run_loadVarN (cs := [v28, v_L]) Try.underlying86 rfl ti86 hH38 (seg_sub 0 rfl) (CellsAt.one rfl)) ?_)
    have q39 : (holdR H c) = (insAt (H.eraseIdx (findC H c.own c.key).toNat) (findC H c.own c.key).toNat c) := by unfold holdR; rw [if_pos h17]; rw [set_eq (by omega)]
    have hH40 : Has E w37 [s29, R] := ((hH38.front 5 rfl).front 3 rfl).first 2 rfl
    exact ⟨_, _, rfl, (by rw [q39]; exact ho30), hH40⟩
  · -- not: 0 ≤ (findC H c.own c.key)
    refine wp_skip ?_
    refine t_norm (hK11 _ _ ?_)
    refine wp_seq_k fun K41 hK41 => ?_
    refine c_region ?_
    refine s_op (o_fieldAddr (k := 0) (fun _ => by kernel_rfl) rfl ?_)
    refine s_op (o_load1 (v := v_H) Try.underlying84 rfl rfl hH14 (seg_sub 2 rfl) (CellsAt.one rfl) ?_)
    refine s_op (o_fieldAddr (k := 0) (fun _ => by kernel_rfl) rfl ?_)
    refine s_op (o_load1 (v := v_H) Try.underlying84 rfl rfl hH14 (seg_sub 2 rfl) (CellsAt.one rfl) ?_)
    refine s_op (o_lenS Try.underlying84 rfl h_H ?_)
    refine s_op (o_loadN (cs := [(.int .i64 c.own), (S c.key), (.bool c.wr)]) Try.underlying183 rfl ti183 rfl hH14 (seg_sub 1 rfl) (CellsAt.one rfl) ?_)
    refine s_op (o_callf (vs := #[v_H, (.int .i64 ((H.length : Nat) : Int)), (.agg #[(.int .i64 c.own), (S c.key), (.bool c.wr)])]) ca139 rfl (args3 rfl rfl rfl) (rwith_c (l := H) (ix := ((H.length : Nat) : Int)) (c := c) hH14.all (h_H.mono (seg_sub 3 rfl)) (by first | omega | (simp only []; omega) | (simp; done) | (simp; omega)) (by first | omega | (simp only []; omega) | (simp; done) | (simp; omega))) ?_)
    rintro _ w47 ⟨v42, s43, rfl, ho44, hX45⟩
    refine ⟨_, rfl, ?_⟩
    have hH46 : Has E w47 [s43, [Hp.one b8 (.cells #[(.slice none 0 0), (.slice none 0 0)] 86 (0, 0))], [Hp.one b5 (.cells #[(.int .i64 c.own), (S c.key), (.bool c.wr)] 183 (0, 0))], [Hp.one b2 (.cells #[v_H, v_L] 86 (0, 0))], R] := hX45.of_all1
    refine s_op (o_fieldAddr (k := 0) (fun _ => by kernel_rfl) rfl ?_)
    refine s_eff (o_store1 (c' := #[v42, v_L]) ti84 rfl rfl ho44.one (by simp) rfl (hH46.front 3 rfl) fun w48 hH49 => ?_)
    refine s_nil ?_
    refine t_norm (hK41 _ _ ?_)
    refine wp_seq_k fun K50 hK50 => ?_
    refine c_region ?_
    refine s_op (o_loadN (cs := [v42, v_L]) Try.underlying86 rfl ti86 rfl hH49 (seg_sub 0 rfl) (CellsAt.one rfl) ?_)
    refine s_eff (o_storeN (vs := [v42, v_L]) (c' := #[v42, v_L]) ti86 rfl rfl rfl rfl (by intro u hu; simp only [List.mem_cons, List.not_mem_nil, or_false] at hu; rcases hu with rfl | rfl <;> first | rfl | exact ho44.one | exact h_L.one) (by simp) (by kernel_rfl) (hH49.front 2 rfl) fun w51 hH52 => ?_)
    refine s_nil ?_
    refine t_norm (hK50 _ _ ?_)
    refine wp_ret ?_
    refine c_retC1 Try.results138 rfl (run_loadVarN (cs := [v42, v_L]) Try.underlying86 rfl ti86 hH52 (seg_sub 0 rfl) (CellsAt.one rfl)) ?_
    have q53 : (holdR H c) = (insAt H ((H.length : Nat) : Int).toNat c) := by unfold holdR; rw [if_neg h17]; rw [show ((H.length : Int)).toNat = H.length from by omega, insAt_end]
    have hH54 : Has E w51 [s43, R] := ((hH52.front 4 rfl).front 3 rfl).first 2 rfl
    exact ⟨_, _, rfl, (by rw [q53]; exact ho44), hH54⟩
end Go.Q
namespace Go.Q
open Go.Proofs
set_option linter.unusedVariables false
set_option maxRecDepth 100000
attribute [local irreducible] wpList OK Code.wp
set_option maxHeartbeats 4000000 in
theorem rhas_c {E w : World} {R : List Hp} {v_l : Value} {l : List Int} {n : Int}  (hH : Has E w [R]) (h_l : Sl R 1 v_l l.length (l.map iV)) :
    Calls Try.prog 140 #[v_l, (.int .i64 n)] w fun e w' => e = .returned (.bool (decide (n ∈ l))) ∧ Has E w' [R] := by
  have hn_ := h_l.le
  refine c_enter (args := [v_l, (.int .i64 n)]) Try.func140 rfl Try.ntmps140 (by simp) ?_
  refine wp_seq_k fun K1 hK1 => ?_
  refine c_region ?_
  refine s_op (o_assign (v := (.bool false)) rfl ?_)
  refine s_nil ?_
  refine t_norm (hK1 _ _ ?_)
  refine wp_seq_k fun K2 hK2 => ?_
  refine wp_seq_k fun K3 hK3 => ?_
  refine c_region ?_
  refine s_op (o_assign (v := (.int .i64 0)) rfl ?_)
  refine s_nil ?_
  refine t_norm (hK3 _ _ ?_)
  refine wp_block ?_
  let I5 : Nat → (Nat → Value) → World → Prop := fun n__ r__ w__ => ∃ (k : Nat), n__ = l.length - k ∧ Has E w__ [R] ∧ (k ≤ l.length) ∧ (∀ j, j < k → ∀ y, l[j]? = some y → decide (y = n) = false) ∧ r__ 0 = v_l ∧ r__ 1 = (.int .i64 n) ∧ r__ 5 = (.int .i64 (k : Int))
  refine c_loop I5 _ ⟨0, rfl, hH, Nat.zero_le _, fun j hj => by omega, rfl, rfl, rfl⟩ ?_
  rintro n_ r8 w6 ⟨k, rfl, hH7, hk, hf, e4_0, e4_1, e4_5⟩
  refine wp_seq_k fun K9 hK9 => ?_
  refine wp_seq_k fun K10 hK10 => ?_
  refine c_region ?_
  refine s_op (o_move (v := (.int .i64 (k : Int))) e4_5 ?_)
  refine s_op (o_move (v := v_l) e4_0 ?_)
  refine s_op (o_lenS Try.underlying54 rfl h_l ?_)
  refine s_op (o_lss (a := (k : Int)) (b := ((l.length : Nat) : Int)) rfl rfl ?_)
  refine s_nil ?_
  refine t_norm (hK10 _ _ ?_)
  refine c_cond rfl (fun h11 => ?_) (fun h11 => ?_)
  · -- (k : Int) < ((l.length : Nat) : Int)
    refine wp_skip ?_
    refine t_norm (hK9 _ _ ?_)
    refine wp_seq_k fun K12 hK12 => ?_
    refine wp_block ?_
    refine wp_seq_k fun K13 hK13 => ?_
    refine c_region ?_
    refine s_op (o_move (v := v_l) e4_0 ?_)
    refine s_op (o_move (v := (.int .i64 (k : Int))) e4_5 ?_)
    obtain ⟨x17, hx18⟩ : ∃ x_, l[((k : Int)).toNat]? = some x_ := get_some (by omega)
    refine s_op (o_index1 Try.underlying54 ti3 rfl h_l rfl (by omega) hx18 fun b14 o15 hc16 => ?_)
    refine s_op (o_load1 (v := (.int .i64 x17)) Try.underlying3 rfl rfl hH7 (seg_sub 0 rfl) hc16 ?_)
    refine s_op (o_move (v := (.int .i64 n)) e4_1 ?_)
    refine s_op (o_eql (a := x17) (b := n) rfl rfl ?_)
    refine s_nil ?_
    refine t_norm (hK13 _ _ ?_)
    refine c_cond rfl (fun h19 => ?_) (fun h19 => ?_)
    · -- x17 = n
      refine wp_seq_k fun K20 hK20 => ?_
      refine c_region ?_
      refine s_op (o_assign (v := (.bool true)) rfl ?_)
      refine s_nil ?_
      refine t_norm (hK20 _ _ ?_)
      refine wp_ret ?_
      refine b_ret (t_ret (t_ret (b_ret (t_ret (c_ret1 Try.results140  (v := (.bool true)) rfl ?_)))))
      have q21 : (decide (n ∈ l)) = true := by exact decide_eq_true (by rw [← h19]; exact List.mem_of_getElem? hx18)
      exact ⟨by rw [q21], hH7⟩
    · -- not: x17 = n
      refine wp_skip ?_
      refine b_norm ?_
      refine t_norm (hK12 _ _ ?_)
      refine c_region ?_
      refine s_op (o_move (v := (.int .i64 (k : Int))) e4_5 ?_)
      refine s_op (o_add (a := (k : Int)) (b := 1) rfl rfl (w64 (by omega) (by omega)) ?_)
      refine s_op (o_assign (v := (.int .i64 ((k : Int) + 1))) rfl ?_)
      refine s_nil ?_
      refine t_norm ⟨l.length - (k + 1), _, rfl, ?_, ?_⟩
      · omega
      · exact ⟨(k + 1), rfl, hH7, (by omega), (nof_step (c := fun y => decide (y = n)) hf (show l[k]? = some _ from hx18) (decide_eq_false h19)), e4_0, e4_1, rfl⟩
  · -- not: (k : Int) < ((l.length : Nat) : Int)
    refine wp_exit ?_
    refine t_exit (t_exit (x_in (?_)))
    refine t_norm (hK2 _ _ ?_)
    refine wp_seq_k fun K22 hK22 => ?_
    refine c_region ?_
    refine s_op (o_assign (v := (.bool false)) rfl ?_)
    refine s_nil ?_
    refine t_norm (hK22 _ _ ?_)
    refine wp_ret ?_
    refine c_ret1 Try.results140  (v := (.bool false)) rfl ?_
    have q23 : (decide (n ∈ l)) = false := by exact has_not hf (by omega)
    exact ⟨by rw [q23], hH7⟩
set_option maxHeartbeats 4000000 in
theorem rof_c {E w : World} {R : List Hp} {v_H : Value} {H : List Plc} {v_L : Value} {L : List Plc} {key : Bs}  (hH : Has E w [R]) (h_H : Sl R 3 v_H H.length (H.flatMap rcC)) (h_L : Sl R 3 v_L L.length (L.flatMap rcC)) (hn : L.length ≤ 1000000) :
    Calls Try.prog 102 #[(.agg #[v_H, v_L]), (S key)] w fun e w' => ∃ (v1' : Value) (s2' : List Hp), e = .returned v1' ∧ (Own 3 1 v1' (ofR L key).length ((ofR L key).map iV) s2') ∧ Has E w' [s2', R] := by
  have hn_ := h_L.le
  refine c_enter (args := [(.agg #[v_H, v_L]), (S key)]) Try.func102 rfl Try.ntmps102 (by simp) ?_
  refine wp_seq_k fun K1 hK1 => ?_
  refine c_region ?_
  refine s_op (o_box (cs := #[v_H, v_L]) rfl rfl hH fun b2 w3 hH4 => ?_)
  refine s_op (o_assign (v := (.slice none 0 0)) rfl ?_)
  refine s_nil ?_
  refine t_norm (hK1 _ _ ?_)
  refine wp_seq_k fun K5 hK5 => ?_
  refine c_region ?_
  refine s_op (o_assign (v := (.slice none 0 0)) rfl ?_)
  refine s_nil ?_
  refine t_norm (hK5 _ _ ?_)
  refine wp_seq_k fun K6 hK6 => ?_
  refine wp_seq_k fun K7 hK7 => ?_
  refine c_region ?_
  refine s_op (o_assign (v := (.int .i64 0)) rfl ?_)
  refine s_nil ?_
  refine t_norm (hK7 _ _ ?_)
  refine wp_block ?_
  let I9 : Nat → (Nat → Value) → World → Prop := fun n__ r__ w__ => ∃ (k : Nat) (vo : Value) (so : List Hp) (out : List Int), n__ = L.length - k ∧ Has E w__ [so, [Hp.one b2 (.cells #[v_H, v_L] 86 (0, 0))], R] ∧ (k ≤ L.length) ∧ (Own 3 1 vo out.length (out.map iV) so) ∧ (out.length ≤ k) ∧ (out = ofR (L.take k) key) ∧ r__ 0 = (.agg #[v_H, v_L]) ∧ r__ 1 = (S key) ∧ r__ 2 = (.pointer (some ⟨b2, 0, none⟩)) ∧ r__ 4 = (.slice none 0 0) ∧ r__ 5 = vo ∧ r__ 6 = (.int .i64 (k : Int))
  have hH10 : Has E w3 [[], [Hp.one b2 (.cells #[v_H, v_L] 86 (0, 0))], R] := (Has.nil ((hH4.front 1 rfl).front 1 rfl)).first 3 rfl
  refine c_loop I9 _ ⟨0, (.slice none 0 0), [], [], rfl, hH10, Nat.zero_le _, Own.nil 3 1, Nat.le_refl _, rfl, rfl, rfl, rfl, rfl, rfl, rfl⟩ ?_
  rintro n_ r13 w11 ⟨k, vo, so, out, rfl, hH12, hk, hoo, hol, hf, e8_0, e8_1, e8_2, e8_4, e8_5, e8_6⟩
  refine wp_seq_k fun K14 hK14 => ?_
  refine wp_seq_k fun K15 hK15 => ?_
  refine c_region ?_
  refine s_op (o_move (v := (.int .i64 (k : Int))) e8_6 ?_)
  refine s_op (o_fieldAddr (k := 1) (fun _ => by kernel_rfl) e8_2 ?_)
  refine s_op (o_load1 (v := v_L) Try.underlying84 rfl rfl hH12 (seg_sub 1 rfl) (CellsAt.one rfl) ?_)
  refine s_op (o_lenS Try.underlying84 rfl h_L ?_)
  refine s_op (o_lss (a := (k : Int)) (b := ((L.length : Nat) : Int)) rfl rfl ?_)
  refine s_nil ?_
  refine t_norm (hK15 _ _ ?_)
  refine c_cond rfl (fun h16 => ?_) (fun h16 => ?_)
  · -- (k : Int) < ((L.length : Nat) : Int)
    refine wp_skip ?_
    refine t_norm (hK14 _ _ ?_)
    refine wp_seq_k fun K17 hK17 => ?_
    refine wp_block ?_
    refine wp_seq_k fun K18 hK18 => ?_
    refine c_region ?_
    refine s_op (o_fieldAddr (k := 1) (fun _ => by kernel_rfl) e8_2 ?_)
    refine s_op (o_load1 (v := v_L) Try.underlying84 rfl rfl hH12 (seg_sub 1 rfl) (CellsAt.one rfl) ?_)
    refine s_op (o_move (v := (.int .i64 (k : Int))) e8_6 ?_)
    obtain ⟨x22, hx23⟩ : ∃ x_, L[((k : Int)).toNat]? = some x_ := get_some (by omega)
    refine s_op (o_indexF rcC_len Try.underlying84 ti183 rfl h_L rfl rfl (by omega) hx23 fun b19 o20 hc21 => ?_)
    refine s_op (o_fieldAddr (k := o20 + 1) (fun _ => by kernel_rfl) rfl ?_)
    refine s_op (o_load1 (v := (S x22.key)) Try.underlying9 rfl rfl hH12 (seg_sub 2 rfl) (CellsAt.field (k := 1) (ds := [(S x22.key)]) hc21 rfl) ?_)
    refine s_op (o_move (v := (S key)) e8_1 ?_)
    refine s_op (o_seql (a := x22.key) (b := key) rfl rfl ?_)
    refine s_nil ?_
    refine t_norm (hK18 _ _ ?_)
    refine c_cond rfl (fun h24 => ?_) (fun h24 => ?_)
    · -- x22.key = key
      refine c_region ?_
      refine s_op (o_move (v := vo) e8_5 ?_)
      refine s_op (o_fieldAddr (k := 1) (fun _ => by kernel_rfl) e8_2 ?_)
      refine s_op (o_load1 (v := v_L) Try.underlying84 rfl rfl hH12 (seg_sub 1 rfl) (CellsAt.one rfl) ?_)
      refine s_op (o_move (v := (.int .i64 (k : Int))) e8_6 ?_)
      refine s_op (o_indexF rcC_len Try.underlying84 ti183 rfl h_L rfl rfl (by omega) hx23 fun b25 o26 hc27 => ?_)
      refine s_op (o_fieldAddr (k := o26) (fun _ => by kernel_rfl) rfl ?_)
      refine s_op (o_load1 (v := (.int .i64 x22.own)) Try.underlying3 rfl rfl hH12 (seg_sub 2 rfl) (CellsAt.field (k := 0) (ds := [(.int .i64 x22.own)]) hc27 rfl) ?_)
      refine s_op (o_buildSlice (ps := #[(0, (.int .i64 x22.own))]) (cells := #[(.int .i64 x22.own)]) Try.underlying54 ti3 (by decide) (parts1 rfl) (by kernel_rfl) hH12 fun b28 w29 hH30 => ?_)
      refine s_op (o_append Try.underlying54 ti3 rfl (by decide) rfl hoo rfl (sl_lit (f := iV) (l := [x22.own]) rfl rfl (by simp)) (hH30.front 1 rfl) (seg_sub 0 rfl) (one_iV _) (by simp; omega) (by simp; omega) fun v31 s32 w34 ho33 hH35 => ?_)
      have ho33 : Own 3 1 v31 (out ++ [x22.own]).length ((out ++ [x22.own]).map iV) s32 := ho33.app
      refine s_op (o_assign (v := v31) rfl ?_)
      refine s_nil ?_
      refine b_norm ?_
      refine t_norm (hK17 _ _ ?_)
      refine c_region ?_
      refine s_op (o_move (v := (.int .i64 (k : Int))) e8_6 ?_)
      refine s_op (o_add (a := (k : Int)) (b := 1) rfl rfl (w64 (by omega) (by omega)) ?_)
      refine s_op (o_assign (v := (.int .i64 ((k : Int) + 1))) rfl ?_)
      refine s_nil ?_
      have hH36 : Has E w34 [s32, [Hp.one b2 (.cells #[v_H, v_L] 86 (0, 0))], R] := (((hH35.front 3 rfl).front 3 rfl).front 2 rfl).first 3 rfl
      refine t_norm ⟨L.length - (k + 1), _, rfl, ?_, ?_⟩
      · omega
      · exact ⟨(k + 1), v31, s32, (out ++ [x22.own]), rfl, hH36, (by omega), (ho33), (by first | omega | (simp only [List.length_append, List.length_cons, List.length_nil]; omega)), (of_yes hf (show L[k]? = some _ from hx23) h24), e8_0, e8_1, e8_2, e8_4, rfl, rfl⟩
    · -- not: x22.key = key
      refine wp_skip ?_
      refine b_norm ?_
      refine t_norm (hK17 _ _ ?_)
      refine c_region ?_
      refine s_op (o_move (v := (.int .i64 (k : Int))) e8_6 ?_)
      refine s_op (o_add (a := (k : Int)) (b := 1) rfl rfl (w64 (by omega) (by omega)) ?_)
      refine s_op (o_assign (v := (.int .i64 ((k : Int) + 1))) rfl ?_)
      refine s_nil ?_
      refine t_norm ⟨L.length - (k + 1), _, rfl, ?_, ?_⟩
      · omega
      · exact ⟨(k + 1), vo, so, out, rfl, hH12, (by omega), (hoo), (by first | omega | (simp only [List.length_append, List.length_cons, List.length_nil]; omega)), (of_no hf (show L[k]? = some _ from hx23) h24), e8_0, e8_1, e8_2, e8_4, e8_5, rfl⟩
  · -- not: (k : Int) < ((L.length : Nat) : Int)
    refine wp_exit ?_
    refine t_exit (t_exit (x_in (?_)))
    refine t_norm (hK6 _ _ ?_)
    refine wp_seq_k fun K37 hK37 => ?_
    refine c_region ?_
    refine s_op (o_move (v := vo) e8_5 ?_)
    refine s_op (o_assign (v := vo) rfl ?_)
    refine s_nil ?_
    refine t_norm (hK37 _ _ ?_)
    refine wp_ret ?_
    refine c_ret1 Try.results102  (v := vo) rfl ?_
    have q38 : (ofR L key) = out := by (have he_ : k = L.length := by omega); rw [hf, he_, List.take_length]
    have hH39 : Has E w11 [so, R] := ((hH12.front 2 rfl).front 1 rfl).first 2 rfl
    exact ⟨_, _, rfl, (by rw [q38]; exact hoo), hH39⟩
set_option maxHeartbeats 4000000 in
theorem rkeys_c {E w : World} {R : List Hp} {v_l : Value} {l : List Plc}  (hH : Has E w [R]) (h_l : Sl R 3 v_l l.length (l.flatMap rcC)) (hl : l.length ≤ 1000) :
    Calls Try.prog 141 #[v_l] w fun e w' => ∃ (v1' : Value) (s2' : List Hp), e = .returned v1' ∧ (Own 9 1 v1' (keysR l).length ((keysR l).map sV) s2') ∧ Has E w' [s2', R] := by
  have hn_ := h_l.le
  refine c_enter (args := [v_l]) Try.func141 rfl Try.ntmps141 (by simp) ?_
  refine wp_seq_k fun K1 hK1 => ?_
  refine c_region ?_
  refine s_op (o_assign (v := (.slice none 0 0)) rfl ?_)
  refine s_nil ?_
  refine t_norm (hK1 _ _ ?_)
  refine wp_seq_k fun K2 hK2 => ?_
  refine c_region ?_
  refine s_op (o_assign (v := (.slice none 0 0)) rfl ?_)
  refine s_nil ?_
  refine t_norm (hK2 _ _ ?_)
  refine wp_seq_k fun K3 hK3 => ?_
  refine wp_seq_k fun K4 hK4 => ?_
  refine c_region ?_
  refine s_op (o_assign (v := (.int .i64 0)) rfl ?_)
  refine s_nil ?_
  refine t_norm (hK4 _ _ ?_)
  refine wp_block ?_
  let I6 : Nat → (Nat → Value) → World → Prop := fun n__ r__ w__ => ∃ (k : Nat) (vo : Value) (so : List Hp) (out : List Bs), n__ = l.length - k ∧ Has E w__ [so, R] ∧ (k ≤ l.length) ∧ (Own 9 1 vo out.length (out.map sV) so) ∧ (out.length ≤ k) ∧ (out = keysR (l.take k)) ∧ r__ 0 = v_l ∧ r__ 2 = (.slice none 0 0) ∧ r__ 3 = vo ∧ r__ 4 = (.int .i64 (k : Int))
  have hH7 : Has E w [[], R] := (Has.nil hH).first 2 rfl
  refine c_loop I6 _ ⟨0, (.slice none 0 0), [], [], rfl, hH7, Nat.zero_le _, Own.nil 9 1, Nat.le_refl _, rfl, rfl, rfl, rfl, rfl⟩ ?_
  rintro n_ r10 w8 ⟨k, vo, so, out, rfl, hH9, hk, hoo, hol, hf, e5_0, e5_2, e5_3, e5_4⟩
  refine wp_seq_k fun K11 hK11 => ?_
  refine wp_seq_k fun K12 hK12 => ?_
  refine c_region ?_
  refine s_op (o_move (v := (.int .i64 (k : Int))) e5_4 ?_)
  refine s_op (o_move (v := v_l) e5_0 ?_)
  refine s_op (o_lenS Try.underlying84 rfl h_l ?_)
  refine s_op (o_lss (a := (k : Int)) (b := ((l.length : Nat) : Int)) rfl rfl ?_)
  refine s_nil ?_
  refine t_norm (hK12 _ _ ?_)
  refine c_cond rfl (fun h13 => ?_) (fun h13 => ?_)
  · -- (k : Int) < ((l.length : Nat) : Int)
    refine wp_skip ?_
    refine t_norm (hK11 _ _ ?_)
    refine wp_seq_k fun K14 hK14 => ?_
    refine wp_block ?_
    refine wp_seq_k fun K15 hK15 => ?_
    refine c_region ?_
    refine s_op (o_assign (v := (.int .i64 0)) rfl ?_)
    refine s_nil ?_
    refine t_norm (hK15 _ _ ?_)
    refine wp_seq_k fun K16 hK16 => ?_
    refine wp_block ?_
    obtain ⟨x17, hx18⟩ : ∃ x_, l[((k : Int)).toNat]? = some x_ := get_some (by omega)
    let I20 : Nat → (Nat → Value) → World → Prop := fun n__ r__ w__ => ∃ (a : Nat), n__ = out.length - a ∧ Has E w__ [so, R] ∧ (a ≤ out.length) ∧ (∀ j, j < a → ∀ y, out[j]? = some y → Op.bytesLess y x17.key = true) ∧ r__ 0 = v_l ∧ r__ 2 = (.slice none 0 0) ∧ r__ 3 = vo ∧ r__ 4 = (.int .i64 (k : Int)) ∧ r__ 5 = (.int .i64 (a : Int)) ∧ r__ 10 = (.bool (decide ((k : Int) < ((l.length : Nat) : Int))))
    refine c_loop I20 _ ⟨0, rfl, hH9, Nat.zero_le _, fun j hj => by omega, e5_0, e5_2, e5_3, e5_4, rfl, rfl⟩ ?_
    rintro n_ r23 w21 ⟨a, rfl, hH22, ha, hlt, e19_0, e19_2, e19_3, e19_4, e19_5, e19_10⟩
    refine wp_seq_k fun K24 hK24 => ?_
    refine wp_seq_k fun K25 hK25 => ?_
    refine Rest.region mixed (by kernel_rfl) ?_
    have hH26 : Has E { w21 with drawn := w21.drawn + 1 } [so, R] := Has0.drew hH22 _
    refine Rest.phaseA (fun w_ => Has E w_ []) 0 3 3 rfl (by decide) (by kernel_rfl) ?_
    refine a_op 0 rfl (by kernel_rfl) (fun w_ h_ => o_move (v := (.int .i64 (a : Int))) e19_5 ⟨rfl, rfl⟩) ?_
    refine a_op 1 rfl (by kernel_rfl) (fun w_ h_ => o_move (v := vo) e19_3 ⟨rfl, rfl⟩) ?_
    refine a_op 2 rfl (by kernel_rfl) (fun w_ h_ => o_lenS Try.underlying53 rfl hoo.sl ⟨rfl, rfl⟩) ?_
    have hH27 : Has E { w21 with drawn := w21.drawn + 1 } [] := hH26.first 0 rfl
    refine a_done (by kernel_rfl) hH27 ?_
    refine r_op 3 rfl (by kernel_rfl) (o_lss (a := (a : Int)) (b := ((out.length : Nat) : Int)) rfl rfl ?_)
    refine r_op 4 rfl (by kernel_rfl) (o_move (v := (.bool (decide ((a : Int) < ((out.length : Nat) : Int))))) rfl ?_)
    refine Rest.phaseA (fun w_ => Has E w_ [so, R]) 5 14 9 rfl (by decide) (by kernel_rfl) ?_
    by_cases h28 : (a : Int) < ((out.length : Nat) : Int)
    · -- (a : Int) < ((out.length : Nat) : Int)
      refine a_on 5 rfl (by kernel_rfl) 17 rfl (congrArg Value.bool (decide_eq_true h28)) (fun w_ h_ => o_move (v := vo) e19_3 ⟨rfl, rfl⟩) ?_
      refine a_on 6 rfl (by kernel_rfl) 17 rfl (congrArg Value.bool (decide_eq_true h28)) (fun w_ h_ => o_move (v := (.int .i64 (a : Int))) e19_5 ⟨rfl, rfl⟩) ?_
      obtain ⟨x32, hx33⟩ : ∃ x_, out[((a : Int)).toNat]? = some x_ := get_some (by omega)
      obtain ⟨b29, o30, hc31, ho34⟩ := ix_ex1 Try.underlying53 ti9 hoo.sl (by omega) hx33
      refine a_on 7 rfl (by kernel_rfl) 17 rfl (congrArg Value.bool (decide_eq_true h28)) (fun w_ h_ => ho34 rfl rfl ⟨rfl, rfl⟩) ?_
      refine a_on 8 rfl (by kernel_rfl) 17 rfl (congrArg Value.bool (decide_eq_true h28)) (fun w_ h_ => o_load1 (v := (S x32)) Try.underlying9 rfl rfl h_ (seg_sub 0 rfl) hc31 ⟨rfl, rfl⟩) ?_
      refine a_on 9 rfl (by kernel_rfl) 17 rfl (congrArg Value.bool (decide_eq_true h28)) (fun w_ h_ => o_move (v := v_l) e19_0 ⟨rfl, rfl⟩) ?_
      refine a_on 10 rfl (by kernel_rfl) 17 rfl (congrArg Value.bool (decide_eq_true h28)) (fun w_ h_ => o_move (v := (.int .i64 (k : Int))) e19_4 ⟨rfl, rfl⟩) ?_
      obtain ⟨b35, o36, hc37, ho38⟩ := ix_exF rcC_len Try.underlying84 ti183 h_l (by omega) hx18
      refine a_on 11 rfl (by kernel_rfl) 17 rfl (congrArg Value.bool (decide_eq_true h28)) (fun w_ h_ => ho38 rfl rfl ⟨rfl, rfl⟩) ?_
      refine a_on 12 rfl (by kernel_rfl) 17 rfl (congrArg Value.bool (decide_eq_true h28)) (fun w_ h_ => o_fieldAddr (k := o36 + 1) (fun _ => by kernel_rfl) rfl ⟨rfl, rfl⟩) ?_
      refine a_on 13 rfl (by kernel_rfl) 17 rfl (congrArg Value.bool (decide_eq_true h28)) (fun w_ h_ => o_load1 (v := (S x17.key)) Try.underlying9 rfl rfl h_ (seg_sub 1 rfl) (CellsAt.field (k := 1) (ds := [(S x17.key)]) hc37 rfl) ⟨rfl, rfl⟩) ?_
      refine a_done (by kernel_rfl) hH26 ?_
      refine r_on 14 rfl (by kernel_rfl) 17 rfl (congrArg Value.bool (decide_eq_true h28)) (o_slss rfl rfl ?_)
      refine r_op 15 rfl (by kernel_rfl) (o_pick_t (u := (.bool (Op.bytesLess x32 x17.key))) ((rfl : _ = _).trans (congrArg Value.bool (decide_eq_true h28))) rfl ?_)
      refine Rest.done (by kernel_rfl) ?_
      refine t_norm (hK25 _ _ ?_)
      refine c_condb rfl (fun h39 => ?_) (fun h39 => ?_)
      · -- Op.bytesLess x32 x17.key
        refine wp_skip ?_
        refine t_norm (hK24 _ _ ?_)
        refine wp_block ?_
        refine c_region ?_
        refine s_op (o_move (v := (.int .i64 (a : Int))) e19_5 ?_)
        refine s_op (o_add (a := (a : Int)) (b := 1) rfl rfl (w64 (by omega) (by omega)) ?_)
        refine s_op (o_assign (v := (.int .i64 ((a : Int) + 1))) rfl ?_)
        refine s_nil ?_
        refine b_norm ?_
        refine t_norm ⟨out.length - (a + 1), _, rfl, ?_, ?_⟩
        · omega
        · exact ⟨(a + 1), rfl, hH26, (by omega), ((fun j hj y hy => by rcases Nat.lt_or_ge j a with g | g; exact hlt j g y hy; obtain rfl : j = a := (by omega); cases hy.symm.trans (show out[j]? = some _ from hx33); exact h39)), e19_0, e19_2, e19_3, e19_4, rfl, e19_10⟩
      · -- not: Op.bytesLess x32 x17.key
        refine wp_exit ?_
        refine t_exit (t_exit (x_in (?_)))
        refine t_norm (hK16 _ _ ?_)
        refine wp_seq_k fun K40 hK40 => ?_
        refine wp_seq_k fun K41 hK41 => ?_
        refine Rest.region mixed (by kernel_rfl) ?_
        have hH42 : Has E { { w21 with drawn := w21.drawn + 1 } with drawn := { w21 with drawn := w21.drawn + 1 }.drawn + 1 } [so, R] := Has0.drew hH26 _
        refine Rest.phaseA (fun w_ => Has E w_ []) 0 3 3 rfl (by decide) (by kernel_rfl) ?_
        refine a_op 0 rfl (by kernel_rfl) (fun w_ h_ => o_move (v := (.int .i64 (a : Int))) e19_5 ⟨rfl, rfl⟩) ?_
        refine a_op 1 rfl (by kernel_rfl) (fun w_ h_ => o_move (v := vo) e19_3 ⟨rfl, rfl⟩) ?_
        refine a_op 2 rfl (by kernel_rfl) (fun w_ h_ => o_lenS Try.underlying53 rfl hoo.sl ⟨rfl, rfl⟩) ?_
        have hH43 : Has E { { w21 with drawn := w21.drawn + 1 } with drawn := { w21 with drawn := w21.drawn + 1 }.drawn + 1 } [] := hH42.first 0 rfl
        refine a_done (by kernel_rfl) hH43 ?_
        refine r_op 3 rfl (by kernel_rfl) (o_lss (a := (a : Int)) (b := ((out.length : Nat) : Int)) rfl rfl ?_)
        refine r_op 4 rfl (by kernel_rfl) (o_move (v := (.bool (decide ((a : Int) < ((out.length : Nat) : Int))))) rfl ?_)
        refine Rest.phaseA (fun w_ => Has E w_ [so, R]) 5 14 9 rfl (by decide) (by kernel_rfl) ?_
        refine a_on 5 rfl (by kernel_rfl) 35 rfl (congrArg Value.bool (decide_eq_true h28)) (fun w_ h_ => o_move (v := vo) e19_3 ⟨rfl, rfl⟩) ?_
        refine a_on 6 rfl (by kernel_rfl) 35 rfl (congrArg Value.bool (decide_eq_true h28)) (fun w_ h_ => o_move (v := (.int .i64 (a : Int))) e19_5 ⟨rfl, rfl⟩) ?_
        obtain ⟨b44, o45, hc46, ho47⟩ := ix_ex1 Try.underlying53 ti9 hoo.sl (by omega) hx33
        refine a_on 7 rfl (by kernel_rfl) 35 rfl (congrArg Value.bool (decide_eq_true h28)) (fun w_ h_ => ho47 rfl rfl ⟨rfl, rfl⟩) ?_
        refine a_on 8 rfl (by kernel_rfl) 35 rfl (congrArg Value.bool (decide_eq_true h28)) (fun w_ h_ => o_load1 (v := (S x32)) Try.underlying9 rfl rfl h_ (seg_sub 0 rfl) hc46 ⟨rfl, rfl⟩) ?_
        refine a_on 9 rfl (by kernel_rfl) 35 rfl (congrArg Value.bool (decide_eq_true h28)) (fun w_ h_ => o_move (v := v_l) e19_0 ⟨rfl, rfl⟩) ?_
        refine a_on 10 rfl (by kernel_rfl) 35 rfl (congrArg Value.bool (decide_eq_true h28)) (fun w_ h_ => o_move (v := (.int .i64 (k : Int))) e19_4 ⟨rfl, rfl⟩) ?_
        obtain ⟨b48, o49, hc50, ho51⟩ := ix_exF rcC_len Try.underlying84 ti183 h_l (by omega) hx18
        refine a_on 11 rfl (by kernel_rfl) 35 rfl (congrArg Value.bool (decide_eq_true h28)) (fun w_ h_ => ho51 rfl rfl ⟨rfl, rfl⟩) ?_
        refine a_on 12 rfl (by kernel_rfl) 35 rfl (congrArg Value.bool (decide_eq_true h28)) (fun w_ h_ => o_fieldAddr (k := o49 + 1) (fun _ => by kernel_rfl) rfl ⟨rfl, rfl⟩) ?_
        refine a_on 13 rfl (by kernel_rfl) 35 rfl (congrArg Value.bool (decide_eq_true h28)) (fun w_ h_ => o_load1 (v := (S x17.key)) Try.underlying9 rfl rfl h_ (seg_sub 1 rfl) (CellsAt.field (k := 1) (ds := [(S x17.key)]) hc50 rfl) ⟨rfl, rfl⟩) ?_
        refine a_done (by kernel_rfl) hH42 ?_
        refine r_on 14 rfl (by kernel_rfl) 35 rfl (congrArg Value.bool (decide_eq_true h28)) (o_seql (a := x32) (b := x17.key) rfl rfl ?_)
        refine r_op 15 rfl (by kernel_rfl) (o_pick_t (u := (.bool (decide (x32 = x17.key)))) ((rfl : _ = _).trans (congrArg Value.bool (decide_eq_true h28))) rfl ?_)
        refine Rest.done (by kernel_rfl) ?_
        refine t_norm (hK41 _ _ ?_)
        refine c_cond rfl (fun h52 => ?_) (fun h52 => ?_)
        · -- x32 = x17.key
          refine wp_exit ?_
          refine t_exit (x_in (?_))
          refine t_norm (hK14 _ _ ?_)
          refine c_region ?_
          refine s_op (o_move (v := (.int .i64 (k : Int))) e19_4 ?_)
          refine s_op (o_add (a := (k : Int)) (b := 1) rfl rfl (w64 (by omega) (by omega)) ?_)
          refine s_op (o_assign (v := (.int .i64 ((k : Int) + 1))) rfl ?_)
          refine s_nil ?_
          refine t_norm ⟨l.length - (k + 1), _, rfl, ?_, ?_⟩
          · omega
          · exact ⟨(k + 1), vo, so, out, rfl, hH42, (by omega), (hoo), (by first | omega | (rw [hend_]; simp [insAt]; omega)), (by rw [keysR_step hf (show l[k]? = some _ from hx18)]; exact (insK_has hlt (show out[a]? = some _ from hx33) h39 h52).symm), e19_0, e19_2, e19_3, rfl⟩
        · -- not: x32 = x17.key
          refine wp_skip ?_
          refine t_norm (hK40 _ _ ?_)
          refine wp_seq_k fun K53 hK53 => ?_
          refine c_region ?_
          refine s_op (o_move (v := vo) e19_3 ?_)
          refine s_op (o_buildSlice (ps := #[(0, (S ([] : List UInt8)))]) (cells := #[(S ([] : List UInt8))]) Try.underlying53 ti9 (by decide) (parts1 rfl) (by kernel_rfl) hH42 fun b54 w55 hH56 => ?_)
          refine s_op (o_append Try.underlying53 ti9 rfl (by decide) rfl hoo rfl (sl_lit (f := sV) (l := [([] : List UInt8)]) rfl rfl (by simp)) (hH56.front 1 rfl) (seg_sub 0 rfl) (one_sV _) (by simp; omega) (by simp; omega) fun v57 s58 w60 ho59 hH61 => ?_)
          have ho59 : Own 9 1 v57 (out ++ [([] : List UInt8)]).length ((out ++ [([] : List UInt8)]).map sV) s58 := ho59.app
          refine s_op (o_assign (v := v57) rfl ?_)
          refine s_nil ?_
          refine t_norm (hK53 _ _ ?_)
          refine wp_seq_k fun K62 hK62 => ?_
          refine wp_seq_k fun K63 hK63 => ?_
          refine c_region ?_
          refine s_op (o_move (v := v57) rfl ?_)
          have hlx_ : (out ++ [([] : List UInt8)]).length = out.length + 1 := by simp
          refine s_op (o_lenS Try.underlying53 rfl ho59.sl ?_)
          refine s_op (o_sub (a := (((out ++ [([] : List UInt8)]).length : Nat) : Int)) (b := 1) rfl rfl (w64 (by omega) (by omega)) ?_)
          refine s_op (o_assign (v := (.int .i64 ((((out ++ [([] : List UInt8)]).length : Nat) : Int) - 1))) rfl ?_)
          refine s_nil ?_
          refine t_norm (hK63 _ _ ?_)
          refine wp_block ?_
          let I65 : Nat → (Nat → Value) → World → Prop := fun n__ r__ w__ => ∃ (kk : Int) (ssh : List Hp) (vsh : Value) (sh : List Bs), n__ = kk.toNat ∧ Has E w__ [ssh, [Hp.one b54 (.cells #[(S ([] : List UInt8))] 9 (0, 0))], R] ∧ ((a : Int) ≤ kk ∧ kk ≤ (out.length : Int)) ∧ (Own 9 1 vsh sh.length (sh.map sV) ssh) ∧ (sh.length = out.length + 1) ∧ (sh = (out ++ [[]]).take (kk.toNat + 1) ++ out.drop kk.toNat) ∧ r__ 0 = v_l ∧ r__ 2 = (.slice none 0 0) ∧ r__ 3 = vsh ∧ r__ 4 = (.int .i64 (k : Int)) ∧ r__ 5 = (.int .i64 (a : Int)) ∧ r__ 6 = (.int .i64 kk) ∧ r__ 10 = (.bool (decide ((k : Int) < ((l.length : Nat) : Int)))) ∧ r__ 28 = (.bool (Op.bytesLess x32 x17.key)) ∧ r__ 46 = (.bool (decide (x32 = x17.key)))
          refine c_loop I65 _ ⟨((((out ++ [([] : List UInt8)]).length : Nat) : Int) - 1), s58, v57, (out ++ [([] : List UInt8)]), rfl, hH61, ⟨by omega, by omega⟩, ho59, (by simp), (by rw [show ((((out ++ [([] : List UInt8)]).length : Nat) : Int) - 1).toNat = out.length from by omega, List.take_of_length_le (by simp), List.drop_of_length_le (Nat.le_refl _), List.append_nil]), e19_0, e19_2, rfl, e19_4, e19_5, rfl, e19_10, rfl, rfl⟩ ?_
          rintro n_ r68 w66 ⟨kk, ssh, vsh, sh, rfl, hH67, hkk, hsh, hsl, hs, e64_0, e64_2, e64_3, e64_4, e64_5, e64_6, e64_10, e64_28, e64_46⟩
          obtain ⟨hkk1, hkk2⟩ := hkk
          refine wp_seq_k fun K69 hK69 => ?_
          refine wp_seq_k fun K70 hK70 => ?_
          refine c_region ?_
          refine s_op (o_move (v := (.int .i64 kk)) e64_6 ?_)
          refine s_op (o_move (v := (.int .i64 (a : Int))) e64_5 ?_)
          refine s_op (o_gtr (a := kk) (b := (a : Int)) rfl rfl ?_)
          refine s_nil ?_
          refine t_norm (hK70 _ _ ?_)
          refine c_cond rfl (fun h71 => ?_) (fun h71 => ?_)
          · -- (a : Int) < kk
            refine wp_skip ?_
            refine t_norm (hK69 _ _ ?_)
            refine wp_seq_k fun K72 hK72 => ?_
            refine wp_block ?_
            refine c_region ?_
            refine s_op (o_move (v := vsh) e64_3 ?_)
            refine s_op (o_move (v := (.int .i64 kk)) e64_6 ?_)
            refine s_op (o_move (v := vsh) e64_3 ?_)
            refine s_op (o_move (v := (.int .i64 kk)) e64_6 ?_)
            refine s_op (o_sub (a := kk) (b := 1) rfl rfl (w64 (by omega) (by omega)) ?_)
            obtain ⟨x76, hx77⟩ : ∃ x_, sh[(kk - 1).toNat]? = some x_ := get_some (by omega)
            refine s_op (o_index1 Try.underlying53 ti9 rfl hsh.sl rfl (by omega) hx77 fun b73 o74 hc75 => ?_)
            refine s_op (o_load1 (v := (S x76)) Try.underlying9 rfl rfl hH67 (seg_sub 0 rfl) hc75 ?_)
            refine s_op (o_ownAddr Try.underlying53 ti9 rfl hsh rfl (by omega) (by first | omega | (simp only [List.length_append, List.length_cons, List.length_nil, List.length_set]; omega)) fun b78 ho79 => ?_)
            refine s_eff (o_ownStore (f := sV) (l := sh) (a := x76) ti9 rfl rfl rfl ho79 (by first | omega | (simp only [List.length_append, List.length_cons, List.length_nil, List.length_set]; omega)) hH67 fun s80 w81 ho82 hH83 => ?_)
            refine s_nil ?_
            refine b_norm ?_
            refine t_norm (hK72 _ _ ?_)
            refine c_region ?_
            refine s_op (o_move (v := (.int .i64 kk)) e64_6 ?_)
            refine s_op (o_sub (a := kk) (b := 1) rfl rfl (w64 (by omega) (by omega)) ?_)
            refine s_op (o_assign (v := (.int .i64 (kk - 1))) rfl ?_)
            refine s_nil ?_
            refine t_norm ⟨(kk - 1).toNat, _, rfl, ?_, ?_⟩
            · omega
            · exact ⟨(kk - 1), s80, vsh, (sh.set ((kk).toNat) x76), rfl, hH83, (⟨by omega, by omega⟩), (ho82), (by rw [List.length_set]; exact hsl), (sh_step hs ⟨by omega, by omega⟩ hx77), e64_0, e64_2, e64_3, e64_4, e64_5, rfl, e64_10, e64_28, e64_46⟩
          · -- not: (a : Int) < kk
            refine wp_exit ?_
            refine t_exit (t_exit (x_in (?_)))
            refine t_norm (hK62 _ _ ?_)
            refine c_region ?_
            refine s_op (o_move (v := vsh) e64_3 ?_)
            refine s_op (o_move (v := (.int .i64 (a : Int))) e64_5 ?_)
            refine s_op (o_move (v := v_l) e64_0 ?_)
            refine s_op (o_move (v := (.int .i64 (k : Int))) e64_4 ?_)
            refine s_op (o_indexF rcC_len Try.underlying84 ti183 rfl h_l rfl rfl (by omega) hx18 fun b84 o85 hc86 => ?_)
            refine s_op (o_fieldAddr (k := o85 + 1) (fun _ => by kernel_rfl) rfl ?_)
            refine s_op (o_load1 (v := (S x17.key)) Try.underlying9 rfl rfl hH67 (seg_sub 2 rfl) (CellsAt.field (k := 1) (ds := [(S x17.key)]) hc86 rfl) ?_)
            refine s_op (o_ownAddr Try.underlying53 ti9 rfl hsh rfl (by omega) (by first | omega | (simp only [List.length_append, List.length_cons, List.length_nil, List.length_set]; omega)) fun b87 ho88 => ?_)
            refine s_eff (o_ownStore (f := sV) (l := sh) (a := x17.key) ti9 rfl rfl rfl ho88 (by first | omega | (simp only [List.length_append, List.length_cons, List.length_nil, List.length_set]; omega)) hH67 fun s89 w90 ho91 hH92 => ?_)
            refine s_nil ?_
            refine b_norm ?_
            refine t_norm (hK14 _ _ ?_)
            refine c_region ?_
            refine s_op (o_move (v := (.int .i64 (k : Int))) e64_4 ?_)
            refine s_op (o_add (a := (k : Int)) (b := 1) rfl rfl (w64 (by omega) (by omega)) ?_)
            refine s_op (o_assign (v := (.int .i64 ((k : Int) + 1))) rfl ?_)
            refine s_nil ?_
            have hH93 : Has E w90 [s89, R] := ((hH92.front 2 rfl).front 1 rfl).first 2 rfl
            refine t_norm ⟨l.length - (k + 1), _, rfl, ?_, ?_⟩
            · omega
            have hend_ : (sh.set (((a : Int)).toNat) x17.key) = insAt out a x17.key := sh_end hs (by omega) (by omega)
            · exact ⟨(k + 1), vsh, s89, (sh.set (((a : Int)).toNat) x17.key), rfl, hH93, (by omega), (ho91), (by first | omega | (rw [hend_]; simp [insAt]; omega)), (by rw [hend_, keysR_step hf (show l[k]? = some _ from hx18)]; exact (insK_mid hlt (show out[a]? = some _ from hx33) h39 h52).symm), e64_0, e64_2, e64_3, rfl⟩
    · -- not: (a : Int) < ((out.length : Nat) : Int)
      refine a_off (b' := false) 5 rfl (by kernel_rfl) 17 rfl (congrArg Value.bool (decide_eq_false h28)) rfl ?_
      refine a_off (b' := false) 6 rfl (by kernel_rfl) 17 rfl (congrArg Value.bool (decide_eq_false h28)) rfl ?_
      refine a_off (b' := false) 7 rfl (by kernel_rfl) 17 rfl (congrArg Value.bool (decide_eq_false h28)) rfl ?_
      refine a_off (b' := false) 8 rfl (by kernel_rfl) 17 rfl (congrArg Value.bool (decide_eq_false h28)) rfl ?_
      refine a_off (b' := false) 9 rfl (by kernel_rfl) 17 rfl (congrArg Value.bool (decide_eq_false h28)) rfl ?_
      refine a_off (b' := false) 10 rfl (by kernel_rfl) 17 rfl (congrArg Value.bool (decide_eq_false h28)) rfl ?_
      refine a_off (b' := false) 11 rfl (by kernel_rfl) 17 rfl (congrArg Value.bool (decide_eq_false h28)) rfl ?_
      refine a_off (b' := false) 12 rfl (by kernel_rfl) 17 rfl (congrArg Value.bool (decide_eq_false h28)) rfl ?_
      refine a_off (b' := false) 13 rfl (by kernel_rfl) 17 rfl (congrArg Value.bool (decide_eq_false h28)) rfl ?_
      refine a_done (by kernel_rfl) hH26 ?_
      refine r_off (b' := false) 14 rfl (by kernel_rfl) 17 rfl (congrArg Value.bool (decide_eq_false h28)) rfl ?_
      refine r_op 15 rfl (by kernel_rfl) (o_pick_f (u := (.bool false)) ((rfl : _ = _).trans (congrArg Value.bool (decide_eq_false h28))) rfl ?_)
      refine Rest.done (by kernel_rfl) ?_
      refine t_norm (hK25 _ _ ?_)
      refine c_false rfl rfl ?_
      refine wp_exit ?_
      refine t_exit (t_exit (x_in (?_)))
      refine t_norm (hK16 _ _ ?_)
      refine wp_seq_k fun K94 hK94 => ?_
      refine wp_seq_k fun K95 hK95 => ?_
      refine Rest.region mixed (by kernel_rfl) ?_
      have hH96 : Has E { { w21 with drawn := w21.drawn + 1 } with drawn := { w21 with drawn := w21.drawn + 1 }.drawn + 1 } [so, R] := Has0.drew hH26 _
      refine Rest.phaseA (fun w_ => Has E w_ []) 0 3 3 rfl (by decide) (by kernel_rfl) ?_
      refine a_op 0 rfl (by kernel_rfl) (fun w_ h_ => o_move (v := (.int .i64 (a : Int))) e19_5 ⟨rfl, rfl⟩) ?_
      refine a_op 1 rfl (by kernel_rfl) (fun w_ h_ => o_move (v := vo) e19_3 ⟨rfl, rfl⟩) ?_
      refine a_op 2 rfl (by kernel_rfl) (fun w_ h_ => o_lenS Try.underlying53 rfl hoo.sl ⟨rfl, rfl⟩) ?_
      have hH97 : Has E { { w21 with drawn := w21.drawn + 1 } with drawn := { w21 with drawn := w21.drawn + 1 }.drawn + 1 } [] := hH96.first 0 rfl
      refine a_done (by kernel_rfl) hH97 ?_
      refine r_op 3 rfl (by kernel_rfl) (o_lss (a := (a : Int)) (b := ((out.length : Nat) : Int)) rfl rfl ?_)
      refine r_op 4 rfl (by kernel_rfl) (o_move (v := (.bool (decide ((a : Int) < ((out.length : Nat) : Int))))) rfl ?_)
      refine Rest.phaseA (fun w_ => Has E w_ []) 5 14 9 rfl (by decide) (by kernel_rfl) ?_
      refine a_off (b' := false) 5 rfl (by kernel_rfl) 35 rfl (congrArg Value.bool (decide_eq_false h28)) rfl ?_
      refine a_off (b' := false) 6 rfl (by kernel_rfl) 35 rfl (congrArg Value.bool (decide_eq_false h28)) rfl ?_
      refine a_off (b' := false) 7 rfl (by kernel_rfl) 35 rfl (congrArg Value.bool (decide_eq_false h28)) rfl ?_
      refine a_off (b' := false) 8 rfl (by kernel_rfl) 35 rfl (congrArg Value.bool (decide_eq_false h28)) rfl ?_
      refine a_off (b' := false) 9 rfl (by kernel_rfl) 35 rfl (congrArg Value.bool (decide_eq_false h28)) rfl ?_
      refine a_off (b' := false) 10 rfl (by kernel_rfl) 35 rfl (congrArg Value.bool (decide_eq_false h28)) rfl ?_
      refine a_off (b' := false) 11 rfl (by kernel_rfl) 35 rfl (congrArg Value.bool (decide_eq_false h28)) rfl ?_
      refine a_off (b' := false) 12 rfl (by kernel_rfl) 35 rfl (congrArg Value.bool (decide_eq_false h28)) rfl ?_
      refine a_off (b' := false) 13 rfl (by kernel_rfl) 35 rfl (congrArg Value.bool (decide_eq_false h28)) rfl ?_
      have hH98 : Has E { { w21 with drawn := w21.drawn + 1 } with drawn := { w21 with drawn := w21.drawn + 1 }.drawn + 1 } [] := hH96.first 0 rfl
      refine a_done (by kernel_rfl) hH98 ?_
      refine r_off (b' := false) 14 rfl (by kernel_rfl) 35 rfl (congrArg Value.bool (decide_eq_false h28)) rfl ?_
      refine r_op 15 rfl (by kernel_rfl) (o_pick_f (u := (.bool false)) ((rfl : _ = _).trans (congrArg Value.bool (decide_eq_false h28))) rfl ?_)
      refine Rest.done (by kernel_rfl) ?_
      refine t_norm (hK95 _ _ ?_)
      refine c_false rfl rfl ?_
      refine wp_skip ?_
      refine t_norm (hK94 _ _ ?_)
      refine wp_seq_k fun K99 hK99 => ?_
      refine c_region ?_
      refine s_op (o_move (v := vo) e19_3 ?_)
      refine s_op (o_buildSlice (ps := #[(0, (S ([] : List UInt8)))]) (cells := #[(S ([] : List UInt8))]) Try.underlying53 ti9 (by decide) (parts1 rfl) (by kernel_rfl) hH96 fun b100 w101 hH102 => ?_)
      refine s_op (o_append Try.underlying53 ti9 rfl (by decide) rfl hoo rfl (sl_lit (f := sV) (l := [([] : List UInt8)]) rfl rfl (by simp)) (hH102.front 1 rfl) (seg_sub 0 rfl) (one_sV _) (by simp; omega) (by simp; omega) fun v103 s104 w106 ho105 hH107 => ?_)
      have ho105 : Own 9 1 v103 (out ++ [([] : List UInt8)]).length ((out ++ [([] : List UInt8)]).map sV) s104 := ho105.app
      refine s_op (o_assign (v := v103) rfl ?_)
      refine s_nil ?_
      refine t_norm (hK99 _ _ ?_)
      refine wp_seq_k fun K108 hK108 => ?_
      refine wp_seq_k fun K109 hK109 => ?_
      refine c_region ?_
      refine s_op (o_move (v := v103) rfl ?_)
      have hlx_ : (out ++ [([] : List UInt8)]).length = out.length + 1 := by simp
      refine s_op (o_lenS Try.underlying53 rfl ho105.sl ?_)
      refine s_op (o_sub (a := (((out ++ [([] : List UInt8)]).length : Nat) : Int)) (b := 1) rfl rfl (w64 (by omega) (by omega)) ?_)
      refine s_op (o_assign (v := (.int .i64 ((((out ++ [([] : List UInt8)]).length : Nat) : Int) - 1))) rfl ?_)
      refine s_nil ?_
      refine t_norm (hK109 _ _ ?_)
      refine wp_block ?_
      let I111 : Nat → (Nat → Value) → World → Prop := fun n__ r__ w__ => ∃ (kk : Int) (ssh : List Hp) (vsh : Value) (sh : List Bs), n__ = kk.toNat ∧ Has E w__ [ssh, [Hp.one b100 (.cells #[(S ([] : List UInt8))] 9 (0, 0))], R] ∧ ((a : Int) ≤ kk ∧ kk ≤ (out.length : Int)) ∧ (Own 9 1 vsh sh.length (sh.map sV) ssh) ∧ (sh.length = out.length + 1) ∧ (sh = (out ++ [[]]).take (kk.toNat + 1) ++ out.drop kk.toNat) ∧ r__ 0 = v_l ∧ r__ 2 = (.slice none 0 0) ∧ r__ 3 = vsh ∧ r__ 4 = (.int .i64 (k : Int)) ∧ r__ 5 = (.int .i64 (a : Int)) ∧ r__ 6 = (.int .i64 kk) ∧ r__ 10 = (.bool (decide ((k : Int) < ((l.length : Nat) : Int)))) ∧ r__ 28 = (.bool false) ∧ r__ 46 = (.bool false)
      refine c_loop I111 _ ⟨((((out ++ [([] : List UInt8)]).length : Nat) : Int) - 1), s104, v103, (out ++ [([] : List UInt8)]), rfl, hH107, ⟨by omega, by omega⟩, ho105, (by simp), (by rw [show ((((out ++ [([] : List UInt8)]).length : Nat) : Int) - 1).toNat = out.length from by omega, List.take_of_length_le (by simp), List.drop_of_length_le (Nat.le_refl _), List.append_nil]), e19_0, e19_2, rfl, e19_4, e19_5, rfl, e19_10, rfl, rfl⟩ ?_
      rintro n_ r114 w112 ⟨kk, ssh, vsh, sh, rfl, hH113, hkk, hsh, hsl, hs, e110_0, e110_2, e110_3, e110_4, e110_5, e110_6, e110_10, e110_28, e110_46⟩
      obtain ⟨hkk1, hkk2⟩ := hkk
      refine wp_seq_k fun K115 hK115 => ?_
      refine wp_seq_k fun K116 hK116 => ?_
      refine c_region ?_
      refine s_op (o_move (v := (.int .i64 kk)) e110_6 ?_)
      refine s_op (o_move (v := (.int .i64 (a : Int))) e110_5 ?_)
      refine s_op (o_gtr (a := kk) (b := (a : Int)) rfl rfl ?_)
      refine s_nil ?_
      refine t_norm (hK116 _ _ ?_)
      refine c_cond rfl (fun h117 => ?_) (fun h117 => ?_)
      · -- (a : Int) < kk
        refine wp_skip ?_
        refine t_norm (hK115 _ _ ?_)
        refine wp_seq_k fun K118 hK118 => ?_
        refine wp_block ?_
        refine c_region ?_
        refine s_op (o_move (v := vsh) e110_3 ?_)
        refine s_op (o_move (v := (.int .i64 kk)) e110_6 ?_)
        refine s_op (o_move (v := vsh) e110_3 ?_)
        refine s_op (o_move (v := (.int .i64 kk)) e110_6 ?_)
        refine s_op (o_sub (a := kk) (b := 1) rfl rfl (w64 (by omega) (by omega)) ?_)
        obtain ⟨x122, hx123⟩ : ∃ x_, sh[(kk - 1).toNat]? = some x_ := get_some (by omega)
        refine s_op (o_index1 Try.underlying53 ti9 rfl hsh.sl rfl (by omega) hx123 fun b119 o120 hc121 => ?_)
        refine s_op (o_load1 (v := (S x122)) Try.underlying9 rfl rfl hH113 (seg_sub 0 rfl) hc121 ?_)
        refine s_op (o_ownAddr Try.underlying53 ti9 rfl hsh rfl (by omega) (by first | omega | (simp only [List.length_append, List.length_cons, List.length_nil, List.length_set]; omega)) fun b124 ho125 => ?_)
        refine s_eff (o_ownStore (f := sV) (l := sh) (a := x122) ti9 rfl rfl rfl ho125 (by first | omega | (simp only [List.length_append, List.length_cons, List.length_nil, List.length_set]; omega)) hH113 fun s126 w127 ho128 hH129 => ?_)
        refine s_nil ?_
        refine b_norm ?_
        refine t_norm (hK118 _ _ ?_)
        refine c_region ?_
        refine s_op (o_move (v := (.int .i64 kk)) e110_6 ?_)
        refine s_op (o_sub (a := kk) (b := 1) rfl rfl (w64 (by omega) (by omega)) ?_)
        refine s_op (o_assign (v := (.int .i64 (kk - 1))) rfl ?_)
        refine s_nil ?_
        refine t_norm ⟨(kk - 1).toNat, _, rfl, ?_, ?_⟩
        · omega
        · exact ⟨(kk - 1), s126, vsh, (sh.set ((kk).toNat) x122), rfl, hH129, (⟨by omega, by omega⟩), (ho128), (by rw [List.length_set]; exact hsl), (sh_step hs ⟨by omega, by omega⟩ hx123), e110_0, e110_2, e110_3, e110_4, e110_5, rfl, e110_10, e110_28, e110_46⟩
      · -- not: (a : Int) < kk
        refine wp_exit ?_
        refine t_exit (t_exit (x_in (?_)))
        refine t_norm (hK108 _ _ ?_)
        refine c_region ?_
        refine s_op (o_move (v := vsh) e110_3 ?_)
        refine s_op (o_move (v := (.int .i64 (a : Int))) e110_5 ?_)
        refine s_op (o_move (v := v_l) e110_0 ?_)
        refine s_op (o_move (v := (.int .i64 (k : Int))) e110_4 ?_)
        refine s_op (o_indexF rcC_len Try.underlying84 ti183 rfl h_l rfl rfl (by omega) hx18 fun b130 o131 hc132 => ?_)
        refine s_op (o_fieldAddr (k := o131 + 1) (fun _ => by kernel_rfl) rfl ?_)
        refine s_op (o_load1 (v := (S x17.key)) Try.underlying9 rfl rfl hH113 (seg_sub 2 rfl) (CellsAt.field (k := 1) (ds := [(S x17.key)]) hc132 rfl) ?_)
        refine s_op (o_ownAddr Try.underlying53 ti9 rfl hsh rfl (by omega) (by first | omega | (simp only [List.length_append, List.length_cons, List.length_nil, List.length_set]; omega)) fun b133 ho134 => ?_)
        refine s_eff (o_ownStore (f := sV) (l := sh) (a := x17.key) ti9 rfl rfl rfl ho134 (by first | omega | (simp only [List.length_append, List.length_cons, List.length_nil, List.length_set]; omega)) hH113 fun s135 w136 ho137 hH138 => ?_)
        refine s_nil ?_
        refine b_norm ?_
        refine t_norm (hK14 _ _ ?_)
        refine c_region ?_
        refine s_op (o_move (v := (.int .i64 (k : Int))) e110_4 ?_)
        refine s_op (o_add (a := (k : Int)) (b := 1) rfl rfl (w64 (by omega) (by omega)) ?_)
        refine s_op (o_assign (v := (.int .i64 ((k : Int) + 1))) rfl ?_)
        refine s_nil ?_
        have hH139 : Has E w136 [s135, R] := ((hH138.front 2 rfl).front 1 rfl).first 2 rfl
        refine t_norm ⟨l.length - (k + 1), _, rfl, ?_, ?_⟩
        · omega
        have hend_ : (sh.set (((a : Int)).toNat) x17.key) = insAt out a x17.key := sh_end hs (by omega) (by omega)
        · exact ⟨(k + 1), vsh, s135, (sh.set (((a : Int)).toNat) x17.key), rfl, hH139, (by omega), (ho137), (by first | omega | (rw [hend_]; simp [insAt]; omega)), (by rw [hend_, keysR_step hf (show l[k]? = some _ from hx18)]; exact (insK_end hlt (by omega)).symm), e110_0, e110_2, e110_3, rfl⟩
  · -- not: (k : Int) < ((l.length : Nat) : Int)
    refine wp_exit ?_
    refine t_exit (t_exit (x_in (?_)))
    refine t_norm (hK3 _ _ ?_)
    refine wp_seq_k fun K140 hK140 => ?_
    refine c_region ?_
    refine s_op (o_move (v := vo) e5_3 ?_)
    refine s_op (o_assign (v := vo) rfl ?_)
    refine s_nil ?_
    refine t_norm (hK140 _ _ ?_)
    refine wp_ret ?_
    refine c_ret1 Try.results141  (v := vo) rfl ?_
    have q141 : (keysR l) = out := by (have he_ : k = l.length := by omega); rw [hf, he_, List.take_length]
    exact ⟨_, _, rfl, (by rw [q141]; exact hoo), hH9⟩
end Go.Q
