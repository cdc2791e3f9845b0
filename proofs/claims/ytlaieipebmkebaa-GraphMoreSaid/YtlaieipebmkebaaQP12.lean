/-
  Parts of a walk: what functions of the program compute, each told by a theorem.
-/
import Derived.Test.YtlaieipebmkebaaQP8
import Derived.Test.YtlaieipebmkebaaQP9
import Derived.Test.YtlaieipebmkebaaQFun
set_option linter.unusedVariables false
set_option linter.unusedSimpArgs false
namespace Go.Q
open Go.Proofs
set_option linter.unusedVariables false
set_option maxRecDepth 100000
attribute [local irreducible] wpList OK Code.wp
set_option maxHeartbeats 4000000 in
theorem round1_c {E w : World} {R : List Hp} (hH : Has E w [R]) {v : Value} {l : List (Int × Int)} (hv : Sl R 2 v l.length (l.flatMap tmC)) (hl : l.length ≤ 1000) {b : Nat} (hcb : CellsAt R b 0 [v]) (x : Int) :
    Calls Try.prog 27 #[(.int .i64 x), (.pointer (some ⟨b, 0, none⟩))] w fun e w' => e = .returned (.bool (goesR l x)) ∧ Has E w' [R] := by
  have hn_ := hv.le
  refine c_enter (args := [(.int .i64 x), (.pointer (some ⟨b, 0, none⟩))]) Try.func27 rfl Try.ntmps27 (by simp) ?_
  refine wp_seq_k fun K1 hK1 => ?_
  refine c_region ?_
  refine s_op (o_assign (v := (.bool false)) rfl ?_)
  refine s_nil ?_
  refine t_norm (hK1 _ _ ?_)
  refine wp_seq_k fun K2 hK2 => ?_
  refine c_region ?_
  refine s_op (o_load1 (v := v) Try.underlying22 rfl rfl hH (seg_sub 0 rfl) hcb ?_)
  refine s_op (o_move (v := (.int .i64 x)) rfl ?_)
  refine s_op (o_buildSlice (ps := #[(0, (.int .i64 x))]) (cells := #[(.int .i64 x)]) Try.underlying23 ti3 (by decide) (parts1 rfl) (by kernel_rfl) hH fun b3 w4 hH5 => ?_)
  refine s_op (o_callf (vs := #[v, (.slice (some ⟨b3, 0, none⟩) 1 1)]) ca12 rfl (args2 rfl rfl) (reach_c hH5.all (l := l) (hv.mono (seg_sub 1 rfl)) (by omega) (fr := [x]) ((sl_lit (f := iV) (l := [x]) rfl rfl (by simp)).mono (seg_sub 0 rfl))) ?_)
  rintro _ w11 ⟨v6, s7, rfl, ho8, hX9⟩
  refine ⟨_, rfl, ?_⟩
  have hH10 : Has E w11 [s7, [Hp.one b3 (.cells #[(.int .i64 x)] 3 (0, 0))], R] := hX9.of_all1
  refine s_op (o_move (v := (.int .i64 x)) rfl ?_)
  refine s_op (o_callf (vs := #[v6, (.int .i64 x)]) ca21 rfl (args2 rfl rfl) (contains_c hH10.all (l := (reachS l [x])) (ho8.sl.mono (seg_sub 0 rfl)) x) ?_)
  rintro _ w14 ⟨rfl, hX12⟩
  refine ⟨_, rfl, ?_⟩
  have hH13 := hX12.of_all
  refine s_op (o_assign (v := (.bool (decide (x ∈ (reachS l [x]))))) rfl ?_)
  refine s_nil ?_
  refine t_norm (hK2 _ _ ?_)
  refine wp_ret ?_
  refine c_ret1 Try.results27  (v := (.bool (decide (x ∈ (reachS l [x]))))) rfl ?_
  have hH15 : Has E w14 [R] := (hH13.front 2 rfl).first 1 rfl
  exact ⟨rfl, hH15⟩
set_option maxHeartbeats 4000000 in
theorem indexf_c {E w : World} {R : List Hp} (hH : Has E w [R]) {v : Value} {l : List (Int × Int)} (hv : Sl R 2 v l.length (l.flatMap tmC)) (hl : l.length ≤ 1000) {b : Nat} (hcb : CellsAt R b 0 [v]) {vf : Value} {fr : List Int} (hf : Ints R vf fr) :
    Calls Try.prog 31 #[vf, (.func (.func 27) #[] #[(.pointer (some ⟨b, 0, none⟩))])] w fun e w' => e = .returned (.int .i64 (idxP (goesR l) fr)) ∧ Has E w' [R] := by
  have hn_ := hf.le
  refine c_enter (args := [vf, (.func (.func 27) #[] #[(.pointer (some ⟨b, 0, none⟩))])]) Try.func31 rfl Try.ntmps31 (by simp) ?_
  refine wp_seq_k fun K1 hK1 => ?_
  refine c_region ?_
  refine s_op (o_assign (v := (.int .i64 0)) rfl ?_)
  refine s_nil ?_
  refine t_norm (hK1 _ _ ?_)
  refine wp_seq_k fun K2 hK2 => ?_
  refine wp_seq_k fun K3 hK3 => ?_
  refine c_region ?_
  refine s_op (o_move (v := vf) rfl ?_)
  refine s_op (o_lenS Try.underlying23 rfl hf ?_)
  refine s_op (o_move (v := (.int .i64 0)) rfl ?_)
  refine s_nil ?_
  refine t_norm (hK3 _ _ ?_)
  refine wp_block ?_
  let I5 : Nat → (Nat → Value) → World → Prop := fun n__ r__ w__ => ∃ (k : Nat), n__ = fr.length - k ∧ Has E w__ [R] ∧ (k ≤ fr.length) ∧ (∀ y ∈ fr.take k, goesR l y = false) ∧ r__ 0 = vf ∧ r__ 1 = (.func (.func 27) #[] #[(.pointer (some ⟨b, 0, none⟩))]) ∧ r__ 7 = (.int .i64 ((fr.length : Nat) : Int)) ∧ r__ 8 = (.int .i64 (k : Int))
  refine c_loop I5 _ ⟨0, rfl, hH, Nat.zero_le _, (by simp), rfl, rfl, rfl, rfl⟩ ?_
  rintro n_ r8 w6 ⟨k, rfl, hH7, hk, hn, e4_0, e4_1, e4_7, e4_8⟩
  refine wp_seq_k fun K9 hK9 => ?_
  refine c_region ?_
  refine s_op (o_lss (a := (k : Int)) (b := ((fr.length : Nat) : Int)) e4_8 e4_7 ?_)
  refine s_nil ?_
  refine t_norm (hK9 _ _ ?_)
  refine wp_seq_k fun K10 hK10 => ?_
  refine c_cond rfl (fun h11 => ?_) (fun h11 => ?_)
  · -- (k : Int) < ((fr.length : Nat) : Int)
    refine wp_skip ?_
    refine t_norm (hK10 _ _ ?_)
    refine wp_seq_k fun K12 hK12 => ?_
    refine wp_block ?_
    refine wp_seq_k fun K13 hK13 => ?_
    refine c_region ?_
    refine s_op (o_move (v := (.int .i64 (k : Int))) e4_8 ?_)
    refine s_op (o_assign (v := (.int .i64 (k : Int))) rfl ?_)
    refine s_nil ?_
    refine t_norm (hK13 _ _ ?_)
    refine wp_seq_k fun K14 hK14 => ?_
    refine c_region ?_
    refine s_op (o_move (v := (.func (.func 27) #[] #[(.pointer (some ⟨b, 0, none⟩))])) e4_1 ?_)
    refine s_op (o_move (v := vf) e4_0 ?_)
    refine s_op (o_move (v := (.int .i64 (k : Int))) rfl ?_)
    obtain ⟨x18, hx19⟩ : ∃ x_, fr[((k : Int)).toNat]? = some x_ := get_some (by omega)
    refine s_op (o_index1 Try.underlying23 ti3 rfl hf rfl (by omega) hx19 fun b15 o16 hc17 => ?_)
    refine s_op (o_load1 (v := (.int .i64 x18)) Try.underlying3 rfl rfl hH7 (seg_sub 0 rfl) hc17 ?_)
    refine s_op (o_callf (vs := #[(.int .i64 x18), (.pointer (some ⟨b, 0, none⟩))]) ca27 rfl (args1c1 rfl) (round1_c hH7.all (l := l) (hv.mono (seg_sub 0 rfl)) hl (hcb.mono (seg_sub 0 rfl)) x18) ?_)
    rintro _ w22 ⟨rfl, hX20⟩
    refine ⟨_, rfl, ?_⟩
    have hH21 := hX20.of_all
    refine s_nil ?_
    refine t_norm (hK14 _ _ ?_)
    refine c_condb rfl (fun h23 => ?_) (fun h23 => ?_)
    · -- goesR l x18
      refine wp_seq_k fun K24 hK24 => ?_
      refine c_region ?_
      refine s_op (o_move (v := (.int .i64 (k : Int))) rfl ?_)
      refine s_op (o_assign (v := (.int .i64 (k : Int))) rfl ?_)
      refine s_nil ?_
      refine t_norm (hK24 _ _ ?_)
      refine wp_ret ?_
      refine b_ret (t_ret (t_ret (b_ret (t_ret (c_ret1 Try.results31  (v := (.int .i64 (k : Int))) rfl ?_)))))
      exact ⟨by rw [idxP_at hn (show fr[k]? = some _ from hx19) h23], hH21⟩
    · -- not: goesR l x18
      refine wp_skip ?_
      refine b_norm ?_
      refine t_norm (hK12 _ _ ?_)
      refine c_region ?_
      refine s_op (o_add (a := (k : Int)) (b := 1) e4_8 rfl (w64 (by omega) (by omega)) ?_)
      refine s_op (o_move (v := (.int .i64 ((k : Int) + 1))) rfl ?_)
      refine s_nil ?_
      refine t_norm ⟨fr.length - (k + 1), _, rfl, ?_, ?_⟩
      · omega
      · exact ⟨(k + 1), rfl, hH21, (by omega), (by rw [take_succ_of (show fr[k]? = some _ from hx19)]; exact fun y g => (List.mem_append.1 g).elim (hn y) (fun g => by rw [List.mem_singleton.1 g]; exact h23)), e4_0, e4_1, e4_7, rfl⟩
  · -- not: (k : Int) < ((fr.length : Nat) : Int)
    refine wp_exit ?_
    refine t_exit (t_exit (x_in (?_)))
    refine t_norm (hK2 _ _ ?_)
    refine wp_seq_k fun K25 hK25 => ?_
    refine c_region ?_
    refine s_op (o_assign (v := (.int .i64 (-1))) rfl ?_)
    refine s_nil ?_
    refine t_norm (hK25 _ _ ?_)
    refine wp_ret ?_
    refine c_ret1 Try.results31  (v := (.int .i64 (-1))) rfl ?_
    have e : k = fr.length := by omega
    rw [e, List.take_of_length_le (Nat.le_refl _)] at hn
    exact ⟨by rw [idxP_none hn], hH7⟩
set_option maxHeartbeats 4000000 in
theorem containsf_c {E w : World} {R : List Hp} (hH : Has E w [R]) {v : Value} {l : List (Int × Int)} (hv : Sl R 2 v l.length (l.flatMap tmC)) (hl : l.length ≤ 1000) {b : Nat} (hcb : CellsAt R b 0 [v]) {vf : Value} {fr : List Int} (hf : Ints R vf fr) :
    Calls Try.prog 26 #[vf, (.func (.func 27) #[] #[(.pointer (some ⟨b, 0, none⟩))])] w fun e w' => e = .returned (.bool (fr.any (goesR l))) ∧ Has E w' [R] := by
  have hn_ := hf.le
  refine c_enter (args := [vf, (.func (.func 27) #[] #[(.pointer (some ⟨b, 0, none⟩))])]) Try.func26 rfl Try.ntmps26 (by simp) ?_
  refine wp_seq_k fun K1 hK1 => ?_
  refine c_region ?_
  refine s_op (o_assign (v := (.bool false)) rfl ?_)
  refine s_nil ?_
  refine t_norm (hK1 _ _ ?_)
  refine wp_seq_k fun K2 hK2 => ?_
  refine c_region ?_
  refine s_op (o_move (v := vf) rfl ?_)
  refine s_op (o_move (v := (.func (.func 27) #[] #[(.pointer (some ⟨b, 0, none⟩))])) rfl ?_)
  refine s_op (o_callf (vs := #[vf, (.func (.func 27) #[] #[(.pointer (some ⟨b, 0, none⟩))])]) ca31 rfl (args2 rfl rfl) (indexf_c hH.all (l := l) (hv.mono (seg_sub 0 rfl)) hl (hcb.mono (seg_sub 0 rfl)) (fr := fr) (hf.mono (seg_sub 0 rfl))) ?_)
  rintro _ w5 ⟨rfl, hX3⟩
  refine ⟨_, rfl, ?_⟩
  have hH4 := hX3.of_all
  refine s_op (o_geq (a := idxP (goesR l) fr) (b := 0) rfl rfl ?_)
  refine s_op (o_assign (v := (.bool (decide (0 ≤ idxP (goesR l) fr)))) rfl ?_)
  refine s_nil ?_
  refine t_norm (hK2 _ _ ?_)
  refine wp_ret ?_
  refine c_ret1 Try.results26  (v := (.bool (decide (0 ≤ idxP (goesR l) fr)))) rfl ?_
  exact ⟨by rw [idxP_any], hH4⟩
set_option maxHeartbeats 4000000 in
theorem round_p {E w : World} {R : List Hp} (hH : Has E w [R]) {p : Option Addr} {cap : Nat} {l : List (Int × Int)} (hv : Sl R 2 (.slice p l.length cap) l.length (l.flatMap tmC)) (hl : l.length ≤ 1000) {vf : Value} {fr : List Int} (hf : Ints R vf fr) :
    Calls Try.prog 18 #[(.slice p l.length cap), vf] w fun e w' => e = .returned (.bool (fr.any (goesR l))) ∧ Has E w' [R] := by
  have hn_ := hf.le
  refine c_enter (args := [(.slice p l.length cap), vf]) Try.func18 rfl Try.ntmps18 (by simp) ?_
  refine wp_seq_k fun K1 hK1 => ?_
  refine c_region ?_
  refine s_op (o_box (cs := #[(.slice p l.length cap)]) rfl rfl hH fun b2 w3 hH4 => ?_)
  refine s_op (o_assign (v := (.bool false)) rfl ?_)
  refine s_nil ?_
  refine t_norm (hK1 _ _ ?_)
  refine wp_seq_k fun K5 hK5 => ?_
  refine c_region ?_
  refine s_op (o_move (v := vf) rfl ?_)
  refine s_op (o_makeFunc (vs := #[(.pointer (some ⟨b2, 0, none⟩))]) (cap1 rfl) ?_)
  refine s_op (o_callf (vs := #[vf, (.func (.func 27) #[] #[(.pointer (some ⟨b2, 0, none⟩))])]) ca26 rfl (args2 rfl rfl) (containsf_c hH4.all (l := l) (hv.mono (seg_sub 1 rfl)) hl ((CellsAt.one rfl).mono (seg_sub 0 rfl)) (fr := fr) (hf.mono (seg_sub 1 rfl))) ?_)
  rintro _ w8 ⟨rfl, hX6⟩
  refine ⟨_, rfl, ?_⟩
  have hH7 := hX6.of_all
  refine s_op (o_assign (v := (.bool (fr.any (goesR l)))) rfl ?_)
  refine s_nil ?_
  refine t_norm (hK5 _ _ ?_)
  refine wp_ret ?_
  refine c_ret1 Try.results18  (v := (.bool (fr.any (goesR l)))) rfl ?_
  have hH9 : Has E w8 [R] := (hH7.front 1 rfl).first 1 rfl
  exact ⟨rfl, hH9⟩
theorem round_c {E w : World} {R : List Hp} (hH : Has E w [R]) {v : Value} {l : List (Int × Int)} (hv : Sl R 2 v l.length (l.flatMap tmC)) (hl : l.length ≤ 1000) {vf : Value} {fr : List Int} (hf : Ints R vf fr) :
    Calls Try.prog 18 #[v, vf] w fun e w' => e = .returned (.bool (fr.any (goesR l))) ∧ Has E w' [R] := by
  obtain ⟨p, cap, rfl⟩ := Sl.form hv
  exact round_p hH hv hl hf
set_option maxHeartbeats 4000000 in
theorem dead_c {E w : World} {R : List Hp} (hH : Has E w [R]) {v : Value} {l : List (Int × Int)} (hv : Sl R 2 v l.length (l.flatMap tmC)) (hl : l.length ≤ 1000) :
    Calls Try.prog 19 #[v] w fun e w' => ∃ v' hs', e = .returned v' ∧ Own 3 1 v' (deadS (goesR l) l).length ((deadS (goesR l) l).map iV) hs' ∧ Has E w' [hs', R] := by
  have hn_ := hv.le
  refine c_enter (args := [v]) Try.func19 rfl Try.ntmps19 (by simp) ?_
  refine wp_seq_k fun K1 hK1 => ?_
  refine c_region ?_
  refine s_op (o_assign (v := (.slice none 0 0)) rfl ?_)
  refine s_nil ?_
  refine t_norm (hK1 _ _ ?_)
  refine wp_seq_k fun K2 hK2 => ?_
  refine c_region ?_
  refine s_op (o_alloc (cs := #[(.slice none 0 0)]) ti45 rfl hH fun b3 w4 hH5 => ?_)
  refine s_nil ?_
  refine t_norm (hK2 _ _ ?_)
  refine wp_seq_k fun K6 hK6 => ?_
  refine wp_seq_k fun K7 hK7 => ?_
  refine c_region ?_
  refine s_op (o_move (v := v) rfl ?_)
  refine s_op (o_lenS Try.underlying22 rfl hv ?_)
  refine s_op (o_move (v := (.int .i64 0)) rfl ?_)
  refine s_nil ?_
  refine t_norm (hK7 _ _ ?_)
  refine wp_block ?_
  let I9 : Nat → (Nat → Value) → World → Prop := fun n__ r__ w__ => ∃ (k : Nat) (va : Value) (ha : List Hp) (cur : List Int), n__ = l.length - k ∧ Has E w__ [ha, [Hp.one b3 (.cells #[va] 45 (0, 0))], R] ∧ (k ≤ l.length) ∧ (Own 3 1 va cur.length (cur.map iV) ha) ∧ (cur = deadS (goesR l) (l.take k)) ∧ (cur.length ≤ k) ∧ r__ 0 = v ∧ r__ 2 = (.slice none 0 0) ∧ r__ 3 = (.pointer (some ⟨b3, 0, none⟩)) ∧ r__ 6 = v ∧ r__ 7 = (.int .i64 ((l.length : Nat) : Int)) ∧ r__ 8 = (.int .i64 (k : Int))
  have hH10 : Has E w4 [[], [Hp.one b3 (.cells #[(.slice none 0 0)] 45 (0, 0))], R] := (Has.nil ((hH5.front 1 rfl).front 1 rfl)).first 3 rfl
  refine c_loop I9 _ ⟨0, (.slice none 0 0), [], [], rfl, hH10, Nat.zero_le _, Own.nil 3 1, rfl, Nat.le_refl _, rfl, rfl, rfl, rfl, rfl, rfl⟩ ?_
  rintro n_ r13 w11 ⟨k, va, ha, cur, rfl, hH12, hk, hoa, hcur, hcl, e8_0, e8_2, e8_3, e8_6, e8_7, e8_8⟩
  have hsc : cur.Pairwise (· < ·) := hcur ▸ deadS_sorted _ _
  refine wp_seq_k fun K14 hK14 => ?_
  refine c_region ?_
  refine s_op (o_lss (a := (k : Int)) (b := ((l.length : Nat) : Int)) e8_8 e8_7 ?_)
  refine s_nil ?_
  refine t_norm (hK14 _ _ ?_)
  refine wp_seq_k fun K15 hK15 => ?_
  refine c_cond rfl (fun h16 => ?_) (fun h16 => ?_)
  · -- (k : Int) < ((l.length : Nat) : Int)
    refine wp_skip ?_
    refine t_norm (hK15 _ _ ?_)
    refine wp_seq_k fun K17 hK17 => ?_
    refine wp_block ?_
    refine wp_seq_k fun K18 hK18 => ?_
    refine c_region ?_
    obtain ⟨x22, hx23⟩ : ∃ x_, l[((k : Int)).toNat]? = some x_ := get_some (by omega)
    refine s_op (o_indexF tmC_len Try.underlying22 ti42 e8_6 hv rfl e8_8 (by omega) hx23 fun b19 o20 hc21 => ?_)
    refine s_op (o_loadN (cs := [(.int .i64 x22.1), (.int .i64 x22.2)]) Try.underlying42 rfl ti42 rfl hH12 (seg_sub 2 rfl) hc21 ?_)
    refine s_op (o_alloc (cs := #[(.int .i64 0), (.int .i64 0)]) ti42 rfl hH12 fun b24 w25 hH26 => ?_)
    refine s_eff (o_storeN (vs := [(.int .i64 x22.1), (.int .i64 x22.2)]) (c' := #[(.int .i64 x22.1), (.int .i64 x22.2)]) ti42 rfl rfl rfl rfl (by intro u hu; simp only [List.mem_cons, List.not_mem_nil, or_false] at hu; rcases hu with rfl | rfl <;> first | rfl) (by simp) (by kernel_rfl) (hH26.front 0 rfl) fun w27 hH28 => ?_)
    refine s_nil ?_
    refine t_norm (hK18 _ _ ?_)
    refine wp_seq_k fun K29 hK29 => ?_
    refine c_region ?_
    refine s_op (o_move (v := v) e8_0 ?_)
    refine s_op (o_fieldAddr (k := 0) (fun _ => by kernel_rfl) rfl ?_)
    refine s_op (o_load1 (v := (.int .i64 x22.1)) Try.underlying3 rfl rfl hH28 (seg_sub 0 rfl) (CellsAt.one rfl) ?_)
    refine s_op (o_buildSlice (ps := #[(0, (.int .i64 x22.1))]) (cells := #[(.int .i64 x22.1)]) Try.underlying23 ti3 (by decide) (parts1 rfl) (by kernel_rfl) hH28 fun b30 w31 hH32 => ?_)
    refine s_op (o_callf (vs := #[v, (.slice (some ⟨b30, 0, none⟩) 1 1)]) ca18 rfl (args2 rfl rfl) (round_c hH32.all (l := l) (hv.mono (seg_sub 4 rfl)) (by omega) (fr := [x22.1]) ((sl_lit (f := iV) (l := [x22.1]) rfl rfl (by simp)).mono (seg_sub 0 rfl))) ?_)
    rintro _ w35 ⟨rfl, hX33⟩
    refine ⟨_, rfl, ?_⟩
    have hH34 := hX33.of_all
    refine s_nil ?_
    refine t_norm (hK29 _ _ ?_)
    refine c_condb rfl (fun h36 => ?_) (fun h36 => ?_)
    · -- [x22.1].any (goesR l)
      refine c_region ?_
      refine s_op (o_fieldAddr (k := 0) (fun _ => by kernel_rfl) rfl ?_)
      refine s_op (o_load1 (v := (.int .i64 x22.1)) Try.underlying3 rfl rfl hH34 (seg_sub 1 rfl) (CellsAt.one rfl) ?_)
      refine s_op (o_buildSlice (ps := #[(0, (.int .i64 x22.1))]) (cells := #[(.int .i64 x22.1)]) Try.underlying23 ti3 (by decide) (parts1 rfl) (by kernel_rfl) hH34 fun b37 w38 hH39 => ?_)
      refine s_op (o_callf (vs := #[(.pointer (some ⟨b3, 0, none⟩)), (.slice (some ⟨b37, 0, none⟩) 1 1)]) ca22 rfl (args2 e8_3 rfl) (add_c ((hH39.front 4 rfl).front 4 rfl).all2 hoa hsc ((sl_lit (f := iV) (l := [x22.1]) rfl rfl (by simp)).mono (seg_sub 0 rfl)) (by simp only [List.length_cons, List.length_nil]; omega)) ?_)
      rintro _ w49 ⟨v40, s41, now42, rfl, ho43, hso44, hm45, hX47⟩
      refine ⟨_, rfl, ?_⟩
      have hH48 : Has E w49 [s41, [Hp.one b3 (.cells #[v40] 45 (0, 0))], [Hp.one b37 (.cells #[(.int .i64 x22.1)] 3 (0, 0))], [Hp.one b30 (.cells #[(.int .i64 x22.1)] 3 (0, 0))], [Hp.one b24 (.cells #[(.int .i64 x22.1), (.int .i64 x22.2)] 42 (0, 0))], R] := hX47.of_all2
      obtain rfl := set_with hsc hso44 hm45
      refine s_nil ?_
      refine b_norm ?_
      refine t_norm (hK17 _ _ ?_)
      refine c_region ?_
      refine s_op (o_add (a := (k : Int)) (b := 1) e8_8 rfl (w64 (by omega) (by omega)) ?_)
      refine s_op (o_move (v := (.int .i64 ((k : Int) + 1))) rfl ?_)
      refine s_nil ?_
      have hH50 : Has E w49 [s41, [Hp.one b3 (.cells #[v40] 45 (0, 0))], R] := (((hH48.front 5 rfl).front 2 rfl).front 2 rfl).first 3 rfl
      refine t_norm ⟨l.length - (k + 1), _, rfl, ?_, ?_⟩
      · omega
      · exact ⟨(k + 1), v40, s41, (withS x22.1 false cur), rfl, hH50, (by omega), (ho43), (by rw [dead_yes (show l[k]? = some _ from hx23) (by simpa using h36), ← hcur]), (by first | omega | (have := withS_le x22.1 false cur; simp only [Bool.false_eq_true, if_false] at this; omega)), e8_0, e8_2, e8_3, e8_6, e8_7, rfl⟩
    · -- not: [x22.1].any (goesR l)
      refine wp_skip ?_
      refine b_norm ?_
      refine t_norm (hK17 _ _ ?_)
      refine c_region ?_
      refine s_op (o_add (a := (k : Int)) (b := 1) e8_8 rfl (w64 (by omega) (by omega)) ?_)
      refine s_op (o_move (v := (.int .i64 ((k : Int) + 1))) rfl ?_)
      refine s_nil ?_
      have hH51 : Has E w35 [ha, [Hp.one b3 (.cells #[va] 45 (0, 0))], R] := (((hH34.front 4 rfl).front 4 rfl).front 4 rfl).first 3 rfl
      refine t_norm ⟨l.length - (k + 1), _, rfl, ?_, ?_⟩
      · omega
      · exact ⟨(k + 1), va, ha, cur, rfl, hH51, (by omega), (hoa), (by rw [dead_no (show l[k]? = some _ from hx23) (by simpa using h36), ← hcur]), (by first | omega | (have := withS_le x22.1 false cur; simp only [Bool.false_eq_true, if_false] at this; omega)), e8_0, e8_2, e8_3, e8_6, e8_7, rfl⟩
  · -- not: (k : Int) < ((l.length : Nat) : Int)
    refine wp_exit ?_
    refine t_exit (t_exit (x_in (?_)))
    refine t_norm (hK6 _ _ ?_)
    refine wp_seq_k fun K52 hK52 => ?_
    refine c_region ?_
    refine s_op (o_callf (vs := #[(.pointer (some ⟨b3, 0, none⟩))]) ca23 rfl (args1 e8_3) (list_o ((hH12.front 1 rfl).front 1 rfl).all2 hoa hsc (by omega)) ?_)
    rintro _ w58 ⟨v53, s54, rfl, hv55, hX56⟩
    refine ⟨_, rfl, ?_⟩
    have hH57 : Has E w58 [s54, ha, [Hp.one b3 (.cells #[va] 45 (0, 0))], R] := hX56.of_all3
    refine s_op (o_assign (v := v53) rfl ?_)
    refine s_nil ?_
    refine t_norm (hK52 _ _ ?_)
    refine wp_ret ?_
    refine c_ret1 Try.results19  (v := v53) rfl ?_
    have hH59 : Has E w58 [s54, R] := ((hH57.front 3 rfl).front 1 rfl).first 2 rfl
    have e : k = l.length := by omega
    rw [e, List.take_of_length_le (Nat.le_refl _)] at hcur
    exact ⟨_, _, rfl, by rw [← hcur]; exact hv55, hH59⟩
end Go.Q
