/-
  Parts of a walk: what functions of the program compute, each told by a theorem.
-/
import Derived.Test.YtagicdbeacmffaaQS7
set_option linter.unusedVariables false
set_option linter.unusedSimpArgs false
namespace Go.Q
open Go.Proofs
set_option linter.unusedVariables false
set_option maxRecDepth 100000
attribute [local irreducible] wpList OK Code.wp
set_option maxHeartbeats 4000000 in
theorem drop_c {E w : World} {R hs : List Hp} {v : Value} {now : List Int} {sb : Nat} (hH : Has E w [hs, [Hp.one sb (.cells #[v] 81 (0, 0))], R]) (ho : Own 3 1 v now.length (now.map iV) hs) (hso : now.Pairwise (· < ·)) {vl : Value} {l : List Int} (hv : Ints R vl l) (hl : now.length ≤ 1000000) :
    Calls Try.prog 44 #[(.pointer (some ⟨sb, 0, none⟩)), vl] w fun e w' => ∃ (v' : Value) (hs' : List Hp) (now' : List Int), e = .returned (.int .i64 ((now.length : Int) - (now'.length : Int))) ∧ Own 3 1 v' now'.length (now'.map iV) hs' ∧ now'.Pairwise (· < ·) ∧ (∀ a, a ∈ now' ↔ a ∈ now ∧ a ∉ l) ∧ Has E w' [hs', [Hp.one sb (.cells #[v'] 81 (0, 0))], R] := by
  have hvl := hv.le
  refine c_enter (args := [(.pointer (some ⟨sb, 0, none⟩)), vl]) Try.func44 rfl Try.ntmps44 (by simp) ?_
  refine wp_seq_k fun K1 hK1 => ?_
  refine c_region ?_
  refine s_op (o_assign (v := (.int .i64 0)) rfl ?_)
  refine s_nil ?_
  refine t_norm (hK1 _ _ ?_)
  refine wp_seq_k fun K2 hK2 => ?_
  refine c_region ?_
  refine s_op (o_assign (v := (.int .i64 0)) rfl ?_)
  refine s_nil ?_
  refine t_norm (hK2 _ _ ?_)
  refine wp_seq_k fun K3 hK3 => ?_
  refine wp_seq_k fun K4 hK4 => ?_
  refine c_region ?_
  refine s_op (o_move (v := vl) rfl ?_)
  refine s_op (o_lenS Try.underlying28 rfl hv ?_)
  refine s_op (o_move (v := (.int .i64 0)) rfl ?_)
  refine s_nil ?_
  refine t_norm (hK4 _ _ ?_)
  refine wp_block ?_
  let I6 : Nat → (Nat → Value) → World → Prop := fun n__ r__ w__ => ∃ (k : Nat) (va : Value) (ha : List Hp) (cur : List Int) (cnt : Int), n__ = l.length - k ∧ Has E w__ [ha, [Hp.one sb (.cells #[va] 81 (0, 0))], R] ∧ (k ≤ l.length) ∧ (cnt = (now.length : Int) - (cur.length : Int)) ∧ (Own 3 1 va cur.length (cur.map iV) ha) ∧ (cur.Pairwise (· < ·)) ∧ (∀ a, a ∈ cur ↔ a ∈ now ∧ a ∉ l.take k) ∧ (cur.length ≤ now.length) ∧ r__ 0 = (.pointer (some ⟨sb, 0, none⟩)) ∧ r__ 1 = vl ∧ r__ 4 = (.int .i64 0) ∧ r__ 5 = (.int .i64 cnt) ∧ r__ 10 = vl ∧ r__ 11 = (.int .i64 ((l.length : Nat) : Int)) ∧ r__ 12 = (.int .i64 (k : Int))
  refine c_loop I6 _ ⟨0, v, hs, now, 0, rfl, hH, Nat.zero_le _, (by omega), ho, hso, (by simp), (by omega), rfl, rfl, rfl, rfl, rfl, rfl, rfl⟩ ?_
  rintro n_ r9 w7 ⟨k, va, ha, cur, cnt, rfl, hH8, hk, hn, hoa, hsc, hm, hc, e5_0, e5_1, e5_4, e5_5, e5_10, e5_11, e5_12⟩
  refine wp_seq_k fun K10 hK10 => ?_
  refine c_region ?_
  refine s_op (o_lss (a := (k : Int)) (b := ((l.length : Nat) : Int)) e5_12 e5_11 ?_)
  refine s_nil ?_
  refine t_norm (hK10 _ _ ?_)
  refine wp_seq_k fun K11 hK11 => ?_
  refine c_cond rfl (fun h12 => ?_) (fun h12 => ?_)
  · -- (k : Int) < ((l.length : Nat) : Int)
    refine wp_skip ?_
    refine t_norm (hK11 _ _ ?_)
    refine wp_seq_k fun K13 hK13 => ?_
    refine wp_block ?_
    refine wp_seq_k fun K14 hK14 => ?_
    refine c_region ?_
    obtain ⟨x18, hx19⟩ : ∃ x_, l[((k : Int)).toNat]? = some x_ := get_some (by omega)
    refine s_op (o_index1 Try.underlying28 ti3 e5_10 hv e5_12 (by omega) hx19 fun b15 o16 hc17 => ?_)
    refine s_op (o_load1 (v := (.int .i64 x18)) Try.underlying3 rfl rfl hH8 (seg_sub 2 rfl) hc17 ?_)
    refine s_op (o_assign (v := (.int .i64 x18)) rfl ?_)
    refine s_nil ?_
    refine t_norm (hK14 _ _ ?_)
    refine wp_seq_k fun K20 hK20 => ?_
    refine c_region ?_
    refine s_op (o_move (v := (.pointer (some ⟨sb, 0, none⟩))) e5_0 ?_)
    refine s_op (o_move (v := (.int .i64 x18)) rfl ?_)
    refine s_op (o_buildSlice (ps := #[(0, (.int .i64 x18))]) (cells := #[(.int .i64 x18)]) Try.underlying28 ti3 (by decide) (parts1 rfl) (by kernel_rfl) hH8 fun b21 w22 hH23 => ?_)
    refine s_op (o_callf (vs := #[(.pointer (some ⟨sb, 0, none⟩)), (.slice (some ⟨b21, 0, none⟩) 1 1)]) ca41 rfl (args2 rfl rfl) (has_c ((hH23.front 2 rfl).front 2 rfl).all2 hoa hsc (by omega) ((sl_lit (f := iV) (l := [x18]) rfl rfl (by simp)).mono (seg_sub 0 rfl))) ?_)
    rintro _ w26 ⟨rfl, hX24⟩
    refine ⟨_, rfl, ?_⟩
    have hH25 : Has E w26 [ha, [Hp.one sb (.cells #[va] 81 (0, 0))], [Hp.one b21 (.cells #[(.int .i64 x18)] 3 (0, 0))], R] := hX24.of_all2
    refine s_nil ?_
    refine t_norm (hK20 _ _ ?_)
    refine c_cond rfl (fun h27 => ?_) (fun h27 => ?_)
    · -- ∀ a ∈ [x18], a ∈ cur
      have hxc : x18 ∈ cur := by simpa using h27
      refine wp_seq_k fun K28 hK28 => ?_
      refine c_region ?_
      refine s_op (o_move (v := (.pointer (some ⟨sb, 0, none⟩))) e5_0 ?_)
      refine s_op (o_nilCheck rfl ?_)
      refine s_op (o_fieldAddr (k := 0) (fun _ => by kernel_rfl) rfl ?_)
      refine s_op (o_load1 (v := va) Try.underlying28 rfl rfl hH25 (seg_sub 1 rfl) (CellsAt.one rfl) ?_)
      refine s_op (o_move (v := (.int .i64 x18)) rfl ?_)
      refine s_op (o_callf (vs := #[va, (.int .i64 x18)]) ca49 rfl (args2 rfl rfl) (bs_c hH25.all (l := cur) (hoa.sl.mono (seg_sub 0 rfl)) hsc (by omega) x18) ?_)
      rintro _ w35 ⟨p29, rfl, hp30, hlo31, hhi32, hX33⟩
      refine ⟨_, rfl, ?_⟩
      have hH34 : Has E w35 [ha, [Hp.one sb (.cells #[va] 81 (0, 0))], [Hp.one b21 (.cells #[(.int .i64 x18)] 3 (0, 0))], R] := hX33.of_all
      refine s_op (o_move (v := (.tuple #[(.int .i64 (p29 : Int)), (.bool (decide (x18 ∈ cur)))])) rfl ?_)
      refine s_op (o_extract (v := (.int .i64 (p29 : Int))) rfl rfl ?_)
      refine s_op (o_extract (v := (.bool (decide (x18 ∈ cur)))) rfl rfl ?_)
      refine s_op (o_assign (v := (.int .i64 (p29 : Int))) rfl ?_)
      refine s_op (o_assign (v := (.bool (decide (x18 ∈ cur)))) rfl ?_)
      refine s_nil ?_
      refine t_norm (hK28 _ _ ?_)
      refine wp_seq_k fun K36 hK36 => ?_
      refine c_region ?_
      refine s_op (o_move (v := (.pointer (some ⟨sb, 0, none⟩))) e5_0 ?_)
      refine s_op (o_move (v := (.pointer (some ⟨sb, 0, none⟩))) e5_0 ?_)
      refine s_op (o_nilCheck rfl ?_)
      refine s_op (o_fieldAddr (k := 0) (fun _ => by kernel_rfl) rfl ?_)
      refine s_op (o_load1 (v := va) Try.underlying28 rfl rfl hH34 (seg_sub 1 rfl) (CellsAt.one rfl) ?_)
      refine s_op (o_move (v := (.int .i64 (p29 : Int))) rfl ?_)
      refine s_op (o_move (v := (.int .i64 (p29 : Int))) rfl ?_)
      refine s_op (o_add (a := (p29 : Int)) (b := 1) rfl rfl (w64 (by omega) (by omega)) ?_)
      have hdf := del_facts hsc hlo31 hhi32 hxc
      have hdl : (cur.take p29 ++ cur.drop (p29 + 1)).length = cur.length - 1 := by have := hdf.1; simp only [List.length_append, List.length_take, List.length_drop]; omega
      refine s_op (o_callf (vs := #[va, (.int .i64 (p29 : Int)), (.int .i64 ((p29 : Int) + 1))]) ca51 rfl (args3 rfl rfl rfl) (del_own p29 hH34.all1 hoa hdf.1 (by omega)) ?_)
      rintro _ w42 ⟨v37, s38, rfl, ho39, hX40⟩
      refine ⟨_, rfl, ?_⟩
      have hH41 : Has E w42 [s38, [Hp.one sb (.cells #[va] 81 (0, 0))], [Hp.one b21 (.cells #[(.int .i64 x18)] 3 (0, 0))], R] := hX40.of_all1
      refine s_op (o_nilCheck rfl ?_)
      refine s_op (o_fieldAddr (k := 0) (fun _ => by kernel_rfl) rfl ?_)
      refine s_eff (o_store1 (c' := #[v37]) ti28 rfl rfl ho39.one (by simp) rfl (hH41.front 1 rfl) fun w43 hH44 => ?_)
      refine s_nil ?_
      refine t_norm (hK36 _ _ ?_)
      refine c_region ?_
      refine s_op (o_move (v := (.int .i64 cnt)) e5_5 ?_)
      refine s_op (o_add (a := cnt) (b := 1) rfl rfl (w64 (by omega) (by omega)) ?_)
      refine s_op (o_assign (v := (.int .i64 (cnt + 1))) rfl ?_)
      refine s_nil ?_
      refine b_norm ?_
      refine t_norm (hK13 _ _ ?_)
      refine c_region ?_
      refine s_op (o_add (a := (k : Int)) (b := 1) e5_12 rfl (w64 (by omega) (by omega)) ?_)
      refine s_op (o_move (v := (.int .i64 ((k : Int) + 1))) rfl ?_)
      refine s_nil ?_
      have hH45 : Has E w43 [s38, [Hp.one sb (.cells #[v37] 81 (0, 0))], R] := (((hH44.front 3 rfl).front 1 rfl).front 2 rfl).first 3 rfl
      refine t_norm ⟨l.length - (k + 1), _, rfl, ?_, ?_⟩
      · omega
      · exact ⟨(k + 1), v37, s38, (cur.take p29 ++ cur.drop (p29 + 1)), (cnt + 1), rfl, hH45, (by omega), (by have := hdf.1; omega), (ho39), (hdf.2.1), (mem_step_del hm (show l[k]? = some _ from hx19) hdf.2.2), (by omega), e5_0, e5_1, e5_4, rfl, e5_10, e5_11, rfl⟩
    · -- not: ∀ a ∈ [x18], a ∈ cur
      have hxc : x18 ∉ cur := by simpa using h27
      refine wp_skip ?_
      refine b_norm ?_
      refine t_norm (hK13 _ _ ?_)
      refine c_region ?_
      refine s_op (o_add (a := (k : Int)) (b := 1) e5_12 rfl (w64 (by omega) (by omega)) ?_)
      refine s_op (o_move (v := (.int .i64 ((k : Int) + 1))) rfl ?_)
      refine s_nil ?_
      have hH46 : Has E w26 [ha, [Hp.one sb (.cells #[va] 81 (0, 0))], R] := (((hH25.front 3 rfl).front 2 rfl).front 2 rfl).first 3 rfl
      refine t_norm ⟨l.length - (k + 1), _, rfl, ?_, ?_⟩
      · omega
      · exact ⟨(k + 1), va, ha, cur, cnt, rfl, hH46, (by omega), (hn), (hoa), (hsc), (mem_step_out hm (show l[k]? = some _ from hx19) hxc), (by omega), e5_0, e5_1, e5_4, e5_5, e5_10, e5_11, rfl⟩
  · -- not: (k : Int) < ((l.length : Nat) : Int)
    refine wp_exit ?_
    refine t_exit (t_exit (x_in (?_)))
    refine t_norm (hK3 _ _ ?_)
    refine wp_seq_k fun K47 hK47 => ?_
    refine c_region ?_
    refine s_op (o_move (v := (.int .i64 cnt)) e5_5 ?_)
    refine s_op (o_assign (v := (.int .i64 cnt)) rfl ?_)
    refine s_nil ?_
    refine t_norm (hK47 _ _ ?_)
    refine wp_ret ?_
    refine c_ret1 Try.results44  (v := (.int .i64 cnt)) rfl ?_
    have e : k = l.length := by omega
    subst e
    rw [List.take_of_length_le (Nat.le_refl _)] at hm
    exact ⟨va, ha, cur, by rw [hn], hoa, hsc, hm, hH8⟩
end Go.Q
