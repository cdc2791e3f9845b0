/-
  Parts of a walk: what functions of the program compute, each told by a theorem.
-/
import Derived.Test.YtlaieipebmkebaaQP5
import Derived.Test.YtlaieipebmkebaaQGraph
import Derived.Test.YtlaieipebmkebaaQWin
set_option linter.unusedVariables false
set_option linter.unusedSimpArgs false
namespace Go.Q
open Go.Proofs
set_option linter.unusedVariables false
set_option maxRecDepth 100000
attribute [local irreducible] wpList OK Code.wp
set_option maxHeartbeats 4000000 in
theorem clone_p {E w : World} {R : List Hp} (hH : Has E w [R]) {p : Option Addr} {cap : Nat} {l : List Int} (hv : Ints R (.slice p l.length cap) l) (hl : l.length ≤ 1000000) :
    Calls Try.prog 24 #[(.slice p l.length cap)] w fun e w' => ∃ v' hs', e = .returned v' ∧ Own 3 1 v' l.length (l.map iV) hs' ∧ Has E w' [hs', R] := by
  refine c_enter (args := [(.slice p l.length cap)]) Try.func24 rfl Try.ntmps24 (by simp) ?_
  refine wp_seq_k fun K1 hK1 => ?_
  refine c_region ?_
  refine s_op (o_assign (v := (.slice none 0 0)) rfl ?_)
  refine s_nil ?_
  refine t_norm (hK1 _ _ ?_)
  refine wp_seq_k fun K2 hK2 => ?_
  refine wp_seq_k fun K3 hK3 => ?_
  refine c_region ?_
  refine s_op (o_move (v := (.slice p l.length cap)) rfl ?_)
  refine s_op (o_snil Try.underlying23 rfl rfl ?_)
  refine s_nil ?_
  refine t_norm (hK3 _ _ ?_)
  refine c_condb rfl (fun h4 => ?_) (fun h4 => ?_)
  · -- p.isNone
    refine wp_seq_k fun K5 hK5 => ?_
    refine c_region ?_
    refine s_op (o_assign (v := (.slice none 0 0)) rfl ?_)
    refine s_nil ?_
    refine t_norm (hK5 _ _ ?_)
    refine wp_ret ?_
    refine t_ret (c_ret1 Try.results24  (v := (.slice none 0 0)) rfl ?_)
    have e0 : l = [] := by
      obtain ⟨q, c, e, h1, h2, h3, h4⟩ := hv
      cases e
      rcases Nat.eq_zero_or_pos l.length with h | h
      · exact List.eq_nil_of_length_eq_zero h
      · obtain ⟨b, o, e, _⟩ := h4 h; subst e; simp at *
    subst e0
    exact ⟨_, _, rfl, Own.nil 3 1, Has.nil hH⟩
  · -- not: p.isNone
    refine wp_skip ?_
    refine t_norm (hK2 _ _ ?_)
    refine wp_seq_k fun K6 hK6 => ?_
    refine c_region ?_
    refine s_op (o_buildSlice (ps := #[]) (cells := #[]) Try.underlying23 ti3 (by decide) (parts0) (by kernel_rfl) hH fun b7 w8 hH9 => ?_)
    refine s_op (o_move (v := (.slice p l.length cap)) rfl ?_)
    refine s_op (o_append Try.underlying23 ti3 rfl (by decide) rfl (Own.lit (e := 3) (sz := 1) (n := 0) (b := b7) (cur := #[]) rfl (by decide)) rfl hv (hH9.front 0 rfl) (seg_sub 0 rfl) (one_iV _) (by simp; omega) (by simp; omega) fun v10 s11 w13 ho12 hH14 => ?_)
    have ho12 : Own 3 1 v10 l.length (l.map iV) s11 := Own.app (a := []) ho12
    refine s_op (o_assign (v := v10) rfl ?_)
    refine s_nil ?_
    refine t_norm (hK6 _ _ ?_)
    refine wp_ret ?_
    refine c_ret1 Try.results24  (v := v10) rfl ?_
    exact ⟨_, _, rfl, by exact ho12, hH14⟩
theorem clone_o {E w : World} {R : List Hp} (hH : Has E w [R]) {v : Value} {l : List Int} (hv : Ints R v l) (hl : l.length ≤ 1000000) :
    Calls Try.prog 24 #[v] w fun e w' => ∃ v' hs', e = .returned v' ∧ Own 3 1 v' l.length (l.map iV) hs' ∧ Has E w' [hs', R] := by
  obtain ⟨p, cap, rfl⟩ := Sl.form hv
  exact clone_p hH hv hl
def idxS (x : Int) : List Int → Int
  | [] => -1
  | y :: l => if x = y then 0 else if idxS x l < 0 then -1 else idxS x l + 1
theorem idx_none {x : Int} : ∀ {l : List Int}, x ∉ l → idxS x l = -1
  | [], _ => rfl
  | y :: l, h => by
    rw [List.mem_cons, not_or] at h
    rw [idxS, if_neg h.1, idx_none h.2]; rfl
theorem idx_at {x y : Int} : ∀ {l : List Int} {k : Nat}, x ∉ l.take k → l[k]? = some y → x = y → idxS x l = k
  | [], _, _, h, _ => by simp at h
  | z :: l, 0, _, h, e => by
    have : z = y := by simpa using h
    rw [idxS, if_pos (by omega)]; rfl
  | z :: l, k + 1, hn, h, e => by
    rw [List.take_succ_cons, List.mem_cons, not_or] at hn
    rw [idxS, if_neg hn.1, idx_at hn.2 (by simpa using h) e, if_neg (by omega)]; omega
theorem idx_dec {x : Int} {l : List Int} : decide (0 ≤ idxS x l) = decide (x ∈ l) := by
  refine decide_eq_decide.2 ⟨fun h => Classical.byContradiction fun n => by rw [idx_none n] at h; omega, fun h => ?_⟩
  induction l with
  | nil => simp at h
  | cons y l ih =>
    rw [idxS]
    by_cases e : x = y
    · rw [if_pos e]; omega
    · rw [if_neg e]
      have := ih ((List.mem_cons.1 h).resolve_left e)
      rw [if_neg (by omega)]; omega
set_option maxHeartbeats 4000000 in
theorem list_o {E w : World} {R hs : List Hp} {v : Value} {now : List Int} {sb : Nat} (hH : Has E w [hs, [Hp.one sb (.cells #[v] 45 (0, 0))], R]) (ho : Own 3 1 v now.length (now.map iV) hs) (hso : now.Pairwise (· < ·)) (hl : now.length ≤ 1000000) :
    Calls Try.prog 23 #[(.pointer (some ⟨sb, 0, none⟩))] w fun e w' => ∃ v' hs', e = .returned v' ∧ Own 3 1 v' now.length (now.map iV) hs' ∧ Has E w' [hs', hs, [Hp.one sb (.cells #[v] 45 (0, 0))], R] := by
  refine c_enter (args := [(.pointer (some ⟨sb, 0, none⟩))]) Try.func23 rfl Try.ntmps23 (by simp) ?_
  refine wp_seq_k fun K1 hK1 => ?_
  refine c_region ?_
  refine s_op (o_assign (v := (.slice none 0 0)) rfl ?_)
  refine s_nil ?_
  refine t_norm (hK1 _ _ ?_)
  refine wp_seq_k fun K2 hK2 => ?_
  refine wp_seq_k fun K3 hK3 => ?_
  refine c_region ?_
  refine s_op (o_move (v := (.pointer (some ⟨sb, 0, none⟩))) rfl ?_)
  refine s_op (o_pnil (p := some _) Try.underlying54 rfl rfl ?_)
  refine s_nil ?_
  refine t_norm (hK3 _ _ ?_)
  refine c_false rfl rfl ?_
  refine wp_skip ?_
  refine t_norm (hK2 _ _ ?_)
  refine wp_seq_k fun K4 hK4 => ?_
  refine c_region ?_
  refine s_op (o_move (v := (.pointer (some ⟨sb, 0, none⟩))) rfl ?_)
  refine s_op (o_nilCheck rfl ?_)
  refine s_op (o_fieldAddr (k := 0) (fun _ => by kernel_rfl) rfl ?_)
  refine s_op (o_load1 (v := v) Try.underlying23 rfl rfl hH (seg_sub 1 rfl) (CellsAt.one rfl) ?_)
  refine s_op (o_callf (vs := #[v]) ca24 rfl (args1 rfl) (clone_o hH.all (l := now) (ho.sl.mono (seg_sub 0 rfl)) (by omega)) ?_)
  rintro _ w10 ⟨v5, s6, rfl, ho7, hX8⟩
  refine ⟨_, rfl, ?_⟩
  have hH9 : Has E w10 [s6, hs, [Hp.one sb (.cells #[v] 45 (0, 0))], R] := hX8.of_all1
  refine s_op (o_assign (v := v5) rfl ?_)
  refine s_nil ?_
  refine t_norm (hK4 _ _ ?_)
  refine wp_ret ?_
  refine c_ret1 Try.results23  (v := v5) rfl ?_
  exact ⟨_, _, rfl, ho7, hH9⟩
set_option maxHeartbeats 4000000 in
theorem index_c {E w : World} {R : List Hp} (hH : Has E w [R]) {v : Value} {l : List Int} (hv : Ints R v l) (x : Int) :
    Calls Try.prog 28 #[v, (.int .i64 x)] w fun e w' => e = .returned (.int .i64 (idxS x l)) ∧ Has E w' [R] := by
  have hn_ := hv.le
  refine c_enter (args := [v, (.int .i64 x)]) Try.func28 rfl Try.ntmps28 (by simp) ?_
  refine wp_seq_k fun K1 hK1 => ?_
  refine c_region ?_
  refine s_op (o_assign (v := (.int .i64 0)) rfl ?_)
  refine s_nil ?_
  refine t_norm (hK1 _ _ ?_)
  refine wp_seq_k fun K2 hK2 => ?_
  refine wp_seq_k fun K3 hK3 => ?_
  refine c_region ?_
  refine s_op (o_move (v := v) rfl ?_)
  refine s_op (o_lenS Try.underlying23 rfl hv ?_)
  refine s_op (o_move (v := (.int .i64 0)) rfl ?_)
  refine s_nil ?_
  refine t_norm (hK3 _ _ ?_)
  refine wp_block ?_
  let I5 : Nat → (Nat → Value) → World → Prop := fun n__ r__ w__ => ∃ (k : Nat), n__ = l.length - k ∧ Has E w__ [R] ∧ (k ≤ l.length) ∧ (x ∉ l.take k) ∧ r__ 0 = v ∧ r__ 1 = (.int .i64 x) ∧ r__ 7 = (.int .i64 ((l.length : Nat) : Int)) ∧ r__ 8 = (.int .i64 (k : Int))
  refine c_loop I5 _ ⟨0, rfl, hH, Nat.zero_le _, (by simp), rfl, rfl, rfl, rfl⟩ ?_
  rintro n_ r8 w6 ⟨k, rfl, hH7, hk, hn, e4_0, e4_1, e4_7, e4_8⟩
  refine wp_seq_k fun K9 hK9 => ?_
  refine c_region ?_
  refine s_op (o_lss (a := (k : Int)) (b := ((l.length : Nat) : Int)) e4_8 e4_7 ?_)
  refine s_nil ?_
  refine t_norm (hK9 _ _ ?_)
  refine wp_seq_k fun K10 hK10 => ?_
  refine c_cond rfl (fun h11 => ?_) (fun h11 => ?_)
  · -- (k : Int) < ((l.length : Nat) : Int)
    refine wp_skip ?_
    refine t_norm (hK10 _ _ ?_)
    refine wp_seq_k fun K12 hK12 => ?_
    refine wp_block ?_
    refine wp_seq_k fun K13 hK13 => ?_
    refine c_region ?_
    refine s_op (o_move (v := (.int .i64 (k : Int))) e4_8 ?_)
    refine s_op (o_assign (v := (.int .i64 (k : Int))) rfl ?_)
    refine s_nil ?_
    refine t_norm (hK13 _ _ ?_)
    refine wp_seq_k fun K14 hK14 => ?_
    refine c_region ?_
    refine s_op (o_move (v := (.int .i64 x)) e4_1 ?_)
    refine s_op (o_move (v := v) e4_0 ?_)
    refine s_op (o_move (v := (.int .i64 (k : Int))) rfl ?_)
    obtain ⟨x18, hx19⟩ : ∃ x_, l[((k : Int)).toNat]? = some x_ := get_some (by omega)
    refine s_op (o_index1 Try.underlying23 ti3 rfl hv rfl (by omega) hx19 fun b15 o16 hc17 => ?_)
    refine s_op (o_load1 (v := (.int .i64 x18)) Try.underlying3 rfl rfl hH7 (seg_sub 0 rfl) hc17 ?_)
    refine s_op (o_eql (a := x) (b := x18) rfl rfl ?_)
    refine s_nil ?_
    refine t_norm (hK14 _ _ ?_)
    refine c_cond rfl (fun h20 => ?_) (fun h20 => ?_)
    · -- x = x18
      refine wp_seq_k fun K21 hK21 => ?_
      refine c_region ?_
      refine s_op (o_move (v := (.int .i64 (k : Int))) rfl ?_)
      refine s_op (o_assign (v := (.int .i64 (k : Int))) rfl ?_)
      refine s_nil ?_
      refine t_norm (hK21 _ _ ?_)
      refine wp_ret ?_
      refine b_ret (t_ret (t_ret (b_ret (t_ret (c_ret1 Try.results28  (v := (.int .i64 (k : Int))) rfl ?_)))))
      exact ⟨by rw [idx_at hn (show l[k]? = some _ from hx19) h20], hH7⟩
    · -- not: x = x18
      refine wp_skip ?_
      refine b_norm ?_
      refine t_norm (hK12 _ _ ?_)
      refine c_region ?_
      refine s_op (o_add (a := (k : Int)) (b := 1) e4_8 rfl (w64 (by omega) (by omega)) ?_)
      refine s_op (o_move (v := (.int .i64 ((k : Int) + 1))) rfl ?_)
      refine s_nil ?_
      refine t_norm ⟨l.length - (k + 1), _, rfl, ?_, ?_⟩
      · omega
      · exact ⟨(k + 1), rfl, hH7, (by omega), (by rw [take_succ_of (show l[k]? = some _ from hx19)]; exact fun g => (List.mem_append.1 g).elim hn (fun g => h20 (List.mem_singleton.1 g))), e4_0, e4_1, e4_7, rfl⟩
  · -- not: (k : Int) < ((l.length : Nat) : Int)
    refine wp_exit ?_
    refine t_exit (t_exit (x_in (?_)))
    refine t_norm (hK2 _ _ ?_)
    refine wp_seq_k fun K22 hK22 => ?_
    refine c_region ?_
    refine s_op (o_assign (v := (.int .i64 (-1))) rfl ?_)
    refine s_nil ?_
    refine t_norm (hK22 _ _ ?_)
    refine wp_ret ?_
    refine c_ret1 Try.results28  (v := (.int .i64 (-1))) rfl ?_
    have e : k = l.length := by omega
    rw [e, List.take_of_length_le (Nat.le_refl _)] at hn
    exact ⟨by rw [idx_none hn], hH7⟩
set_option maxHeartbeats 4000000 in
theorem contains_c {E w : World} {R : List Hp} (hH : Has E w [R]) {v : Value} {l : List Int} (hv : Ints R v l) (x : Int) :
    Calls Try.prog 21 #[v, (.int .i64 x)] w fun e w' => e = .returned (.bool (decide (x ∈ l))) ∧ Has E w' [R] := by
  have hn_ := hv.le
  refine c_enter (args := [v, (.int .i64 x)]) Try.func21 rfl Try.ntmps21 (by simp) ?_
  refine wp_seq_k fun K1 hK1 => ?_
  refine c_region ?_
  refine s_op (o_assign (v := (.bool false)) rfl ?_)
  refine s_nil ?_
  refine t_norm (hK1 _ _ ?_)
  refine wp_seq_k fun K2 hK2 => ?_
  refine c_region ?_
  refine s_op (o_move (v := v) rfl ?_)
  refine s_op (o_move (v := (.int .i64 x)) rfl ?_)
  refine s_op (o_callf (vs := #[v, (.int .i64 x)]) ca28 rfl (args2 rfl rfl) (index_c hH.all (l := l) (hv.mono (seg_sub 0 rfl)) x) ?_)
  rintro _ w5 ⟨rfl, hX3⟩
  refine ⟨_, rfl, ?_⟩
  have hH4 := hX3.of_all
  refine s_op (o_geq (a := idxS x l) (b := 0) rfl rfl ?_)
  refine s_op (o_assign (v := (.bool (decide (0 ≤ idxS x l)))) rfl ?_)
  refine s_nil ?_
  refine t_norm (hK2 _ _ ?_)
  refine wp_ret ?_
  refine c_ret1 Try.results21  (v := (.bool (decide (0 ≤ idxS x l)))) rfl ?_
  exact ⟨by rw [idx_dec], hH4⟩
end Go.Q
