/-
  Parts of a walk: what functions of the program compute, each told by a theorem.
-/
import Derived.Test.YtlaieipebmkebaaQI
import Derived.Test.YtlaieipebmkebaaQP3
set_option linter.unusedVariables false
set_option linter.unusedSimpArgs false
namespace Go.Q
open Go.Proofs
set_option linter.unusedVariables false
set_option maxRecDepth 100000
attribute [local irreducible] wpList OK Code.wp
theorem clone_v {E w : World} {R : List Hp} (hH : Has E w [R]) {v : Value} {l : List Int} (hv : Ints R v l) (hl : l.length ≤ 1000000) :
    Calls Try.prog 24 #[v] w fun e w' => ∃ v' hs', e = .returned v' ∧ (l = [] ∨ Own 3 1 v' l.length (l.map iV) hs') ∧ Ints hs' v' l ∧ Has E w' [hs', R] := by
  obtain ⟨p, cap, rfl⟩ := Sl.form hv
  exact Calls.mono (clone_c hH hv hl) fun e w' ⟨v', hs', h1, h2, h3, h4⟩ => ⟨v', hs', h1, h2.imp And.right id, h3, h4⟩
set_option maxHeartbeats 4000000 in
theorem add_c {E w : World} {R hs : List Hp} {v : Value} {now : List Int} {sb : Nat} (hH : Has E w [hs, [Hp.one sb (.cells #[v] 45 (0, 0))], R]) (ho : Own 3 1 v now.length (now.map iV) hs) (hso : now.Pairwise (· < ·)) {vl : Value} {l : List Int} (hv : Ints R vl l) (hl : now.length + l.length ≤ 1000000) :
    Calls Try.prog 22 #[(.pointer (some ⟨sb, 0, none⟩)), vl] w fun e w' => ∃ (v' : Value) (hs' : List Hp) (now' : List Int), e = .returned (.int .i64 ((now'.length : Int) - (now.length : Int))) ∧ Own 3 1 v' now'.length (now'.map iV) hs' ∧ now'.Pairwise (· < ·) ∧ (∀ a, a ∈ now' ↔ a ∈ now ∨ a ∈ l) ∧ Has E w' [hs', [Hp.one sb (.cells #[v'] 45 (0, 0))], R] := by
  have hvl := hv.le
  refine c_enter (args := [(.pointer (some ⟨sb, 0, none⟩)), vl]) Try.func22 rfl Try.ntmps22 (by simp) ?_
  refine wp_seq_k fun K1 hK1 => ?_
  refine c_region ?_
  refine s_op (o_assign (v := (.int .i64 0)) rfl ?_)
  refine s_nil ?_
  refine t_norm (hK1 _ _ ?_)
  refine wp_seq_k fun K2 hK2 => ?_
  refine c_region ?_
  refine s_op (o_assign (v := (.int .i64 0)) rfl ?_)
  refine s_nil ?_
  refine t_norm (hK2 _ _ ?_)
  refine wp_seq_k fun K3 hK3 => ?_
  refine wp_seq_k fun K4 hK4 => ?_
  refine c_region ?_
  refine s_op (o_move (v := (.pointer (some ⟨sb, 0, none⟩))) rfl ?_)
  refine s_op (o_pnnil (p := some _) Try.underlying54 rfl rfl ?_)
  refine s_nil ?_
  refine t_norm (hK4 _ _ ?_)
  refine c_true rfl rfl ?_
  refine wp_seq_k fun K5 hK5 => ?_
  refine c_region ?_
  refine s_op (o_move (v := vl) rfl ?_)
  refine s_op (o_lenS Try.underlying23 rfl hv ?_)
  refine s_op (o_move (v := (.int .i64 0)) rfl ?_)
  refine s_nil ?_
  refine t_norm (hK5 _ _ ?_)
  refine wp_block ?_
  let I7 : Nat → (Nat → Value) → World → Prop := fun n__ r__ w__ => ∃ (k : Nat) (va : Value) (ha : List Hp) (cur : List Int) (cnt : Int), n__ = l.length - k ∧ Has E w__ [ha, [Hp.one sb (.cells #[va] 45 (0, 0))], R] ∧ (k ≤ l.length) ∧ (cnt = (cur.length : Int) - (now.length : Int)) ∧ (Own 3 1 va cur.length (cur.map iV) ha) ∧ (cur.Pairwise (· < ·)) ∧ (∀ a, a ∈ cur ↔ a ∈ now ∨ a ∈ l.take k) ∧ (cur.length ≤ now.length + k) ∧ r__ 0 = (.pointer (some ⟨sb, 0, none⟩)) ∧ r__ 1 = vl ∧ r__ 4 = (.int .i64 0) ∧ r__ 5 = (.int .i64 cnt) ∧ r__ 11 = (.bool true) ∧ r__ 12 = vl ∧ r__ 13 = (.int .i64 ((l.length : Nat) : Int)) ∧ r__ 14 = (.int .i64 (k : Int))
  refine c_loop I7 _ ⟨0, v, hs, now, 0, rfl, hH, Nat.zero_le _, (by omega), ho, hso, (by simp), (by omega), rfl, rfl, rfl, rfl, rfl, rfl, rfl, rfl⟩ ?_
  rintro n_ r10 w8 ⟨k, va, ha, cur, cnt, rfl, hH9, hk, hn, hoa, hsc, hm, hc, e6_0, e6_1, e6_4, e6_5, e6_11, e6_12, e6_13, e6_14⟩
  refine wp_seq_k fun K11 hK11 => ?_
  refine c_region ?_
  refine s_op (o_lss (a := (k : Int)) (b := ((l.length : Nat) : Int)) e6_14 e6_13 ?_)
  refine s_nil ?_
  refine t_norm (hK11 _ _ ?_)
  refine wp_seq_k fun K12 hK12 => ?_
  refine c_cond rfl (fun h13 => ?_) (fun h13 => ?_)
  · -- (k : Int) < ((l.length : Nat) : Int)
    refine wp_skip ?_
    refine t_norm (hK12 _ _ ?_)
    refine wp_seq_k fun K14 hK14 => ?_
    refine wp_block ?_
    refine wp_seq_k fun K15 hK15 => ?_
    refine c_region ?_
    obtain ⟨x19, hx20⟩ : ∃ x_, l[((k : Int)).toNat]? = some x_ := get_some (by omega)
    refine s_op (o_index1 Try.underlying23 ti3 e6_12 hv e6_14 (by omega) hx20 fun b16 o17 hc18 => ?_)
    refine s_op (o_load1 (v := (.int .i64 x19)) Try.underlying3 rfl rfl hH9 (seg_sub 2 rfl) hc18 ?_)
    refine s_op (o_assign (v := (.int .i64 x19)) rfl ?_)
    refine s_nil ?_
    refine t_norm (hK15 _ _ ?_)
    refine wp_seq_k fun K21 hK21 => ?_
    refine c_region ?_
    refine s_op (o_move (v := (.pointer (some ⟨sb, 0, none⟩))) e6_0 ?_)
    refine s_op (o_nilCheck rfl ?_)
    refine s_op (o_fieldAddr (k := 0) (fun _ => by kernel_rfl) rfl ?_)
    refine s_op (o_load1 (v := va) Try.underlying23 rfl rfl hH9 (seg_sub 1 rfl) (CellsAt.one rfl) ?_)
    refine s_op (o_move (v := (.int .i64 x19)) rfl ?_)
    refine s_op (o_callf (vs := #[va, (.int .i64 x19)]) ca29 rfl (args2 rfl rfl) (bs_c hH9.all (l := cur) (hoa.sl.mono (seg_sub 0 rfl)) hsc (by omega) x19) ?_)
    rintro _ w28 ⟨p22, rfl, hp23, hlo24, hhi25, hX26⟩
    refine ⟨_, rfl, ?_⟩
    have hH27 : Has E w28 [ha, [Hp.one sb (.cells #[va] 45 (0, 0))], R] := hX26.of_all
    refine s_op (o_move (v := (.tuple #[(.int .i64 (p22 : Int)), (.bool (decide (x19 ∈ cur)))])) rfl ?_)
    refine s_op (o_extract (v := (.int .i64 (p22 : Int))) rfl rfl ?_)
    refine s_op (o_extract (v := (.bool (decide (x19 ∈ cur)))) rfl rfl ?_)
    refine s_op (o_assign (v := (.int .i64 (p22 : Int))) rfl ?_)
    refine s_op (o_assign (v := (.bool (decide (x19 ∈ cur)))) rfl ?_)
    refine s_nil ?_
    refine t_norm (hK21 _ _ ?_)
    refine wp_seq_k fun K29 hK29 => ?_
    refine c_region ?_
    refine s_op (o_move (v := (.bool (decide (x19 ∈ cur)))) rfl ?_)
    refine s_op (o_not2 (b := decide (x19 ∈ cur)) (b' := decide (¬ (x19 ∈ cur))) rfl not_dec ?_)
    refine s_nil ?_
    refine t_norm (hK29 _ _ ?_)
    refine c_cond rfl (fun h30 => ?_) (fun h30 => ?_)
    · -- ¬ (x19 ∈ cur)
      refine wp_seq_k fun K31 hK31 => ?_
      refine c_region ?_
      refine s_op (o_move (v := (.pointer (some ⟨sb, 0, none⟩))) e6_0 ?_)
      refine s_op (o_move (v := (.pointer (some ⟨sb, 0, none⟩))) e6_0 ?_)
      refine s_op (o_nilCheck rfl ?_)
      refine s_op (o_fieldAddr (k := 0) (fun _ => by kernel_rfl) rfl ?_)
      refine s_op (o_load1 (v := va) Try.underlying23 rfl rfl hH27 (seg_sub 1 rfl) (CellsAt.one rfl) ?_)
      refine s_op (o_move (v := (.int .i64 (p22 : Int))) rfl ?_)
      refine s_op (o_move (v := (.int .i64 x19)) rfl ?_)
      refine s_op (o_buildSlice (ps := #[(0, (.int .i64 x19))]) (cells := #[(.int .i64 x19)]) Try.underlying23 ti3 (by decide) (parts1 rfl) (by kernel_rfl) hH27 fun b32 w33 hH34 => ?_)
      refine s_op (o_callf (vs := #[va, (.int .i64 (p22 : Int)), (.slice (some ⟨b32, 0, none⟩) 1 1)]) ca30 rfl (args3 rfl rfl rfl) (ins_own p22 (hH34.front 1 rfl).all2 hoa (by omega) (by omega)) ?_)
      rintro _ w40 ⟨v35, s36, rfl, ho37, hX38⟩
      refine ⟨_, rfl, ?_⟩
      have hH39 : Has E w40 [s36, [Hp.one sb (.cells #[va] 45 (0, 0))], R] := hX38.of_all1
      refine s_op (o_nilCheck rfl ?_)
      refine s_op (o_fieldAddr (k := 0) (fun _ => by kernel_rfl) rfl ?_)
      refine s_eff (o_store1 (c' := #[v35]) ti23 rfl rfl ho37.one (by simp) rfl (hH39.front 1 rfl) fun w41 hH42 => ?_)
      refine s_nil ?_
      refine t_norm (hK31 _ _ ?_)
      refine c_region ?_
      refine s_op (o_move (v := (.int .i64 cnt)) e6_5 ?_)
      refine s_op (o_add (a := cnt) (b := 1) rfl rfl (w64 (by omega) (by omega)) ?_)
      refine s_op (o_assign (v := (.int .i64 (cnt + 1))) rfl ?_)
      refine s_nil ?_
      refine b_norm ?_
      refine t_norm (hK14 _ _ ?_)
      refine c_region ?_
      refine s_op (o_add (a := (k : Int)) (b := 1) e6_14 rfl (w64 (by omega) (by omega)) ?_)
      refine s_op (o_move (v := (.int .i64 ((k : Int) + 1))) rfl ?_)
      refine s_nil ?_
      have hH43 : Has E w41 [s36, [Hp.one sb (.cells #[v35] 45 (0, 0))], R] := (((hH42.front 2 rfl).front 1 rfl).front 2 rfl).first 3 rfl
      refine t_norm ⟨l.length - (k + 1), _, rfl, ?_, ?_⟩
      · omega
      · exact ⟨(k + 1), v35, s36, (cur.take p22 ++ [x19] ++ cur.drop p22), (cnt + 1), rfl, hH43, (by omega), (by simp only [List.length_append, List.length_take, List.length_drop, List.length_cons, List.length_nil]; omega), (ho37), (ins_sorted hsc hlo24 hhi25 (by assumption)), (mem_step_add hm (by simpa using hx20)), (by simp only [List.length_append, List.length_take, List.length_drop, List.length_cons, List.length_nil]; omega), e6_0, e6_1, e6_4, rfl, e6_11, e6_12, e6_13, rfl⟩
    · -- not: ¬ (x19 ∈ cur)
      refine wp_skip ?_
      refine b_norm ?_
      refine t_norm (hK14 _ _ ?_)
      refine c_region ?_
      refine s_op (o_add (a := (k : Int)) (b := 1) e6_14 rfl (w64 (by omega) (by omega)) ?_)
      refine s_op (o_move (v := (.int .i64 ((k : Int) + 1))) rfl ?_)
      refine s_nil ?_
      refine t_norm ⟨l.length - (k + 1), _, rfl, ?_, ?_⟩
      · omega
      · exact ⟨(k + 1), va, ha, cur, cnt, rfl, hH27, (by omega), (hn), (hoa), (hsc), (mem_step_in hm (by simpa using hx20) (Classical.not_not.1 (by assumption))), (by omega), e6_0, e6_1, e6_4, e6_5, e6_11, e6_12, e6_13, rfl⟩
  · -- not: (k : Int) < ((l.length : Nat) : Int)
    refine wp_exit ?_
    refine t_exit (t_exit (x_in (?_)))
    refine t_norm (hK3 _ _ ?_)
    refine wp_seq_k fun K44 hK44 => ?_
    refine c_region ?_
    refine s_op (o_move (v := (.int .i64 cnt)) e6_5 ?_)
    refine s_op (o_assign (v := (.int .i64 cnt)) rfl ?_)
    refine s_nil ?_
    refine t_norm (hK44 _ _ ?_)
    refine wp_ret ?_
    refine c_ret1 Try.results22  (v := (.int .i64 cnt)) rfl ?_
    have e : k = l.length := by omega
    subst e
    rw [List.take_of_length_le (Nat.le_refl _)] at hm
    exact ⟨va, ha, cur, by rw [hn], hoa, hsc, hm, hH9⟩
set_option maxHeartbeats 4000000 in
theorem list_c {E w : World} {R hs : List Hp} {v : Value} {now : List Int} {sb : Nat} (hH : Has E w [hs, [Hp.one sb (.cells #[v] 45 (0, 0))], R]) (ho : Own 3 1 v now.length (now.map iV) hs) (hso : now.Pairwise (· < ·)) (hl : now.length ≤ 1000000) :
    Calls Try.prog 23 #[(.pointer (some ⟨sb, 0, none⟩))] w fun e w' => ∃ v' hs', e = .returned v' ∧ Ints hs' v' now ∧ Has E w' [hs', hs, [Hp.one sb (.cells #[v] 45 (0, 0))], R] := by
  refine c_enter (args := [(.pointer (some ⟨sb, 0, none⟩))]) Try.func23 rfl Try.ntmps23 (by simp) ?_
  refine wp_seq_k fun K1 hK1 => ?_
  refine c_region ?_
  refine s_op (o_assign (v := (.slice none 0 0)) rfl ?_)
  refine s_nil ?_
  refine t_norm (hK1 _ _ ?_)
  refine wp_seq_k fun K2 hK2 => ?_
  refine wp_seq_k fun K3 hK3 => ?_
  refine c_region ?_
  refine s_op (o_move (v := (.pointer (some ⟨sb, 0, none⟩))) rfl ?_)
  refine s_op (o_pnil (p := some _) Try.underlying54 rfl rfl ?_)
  refine s_nil ?_
  refine t_norm (hK3 _ _ ?_)
  refine c_false rfl rfl ?_
  refine wp_skip ?_
  refine t_norm (hK2 _ _ ?_)
  refine wp_seq_k fun K4 hK4 => ?_
  refine c_region ?_
  refine s_op (o_move (v := (.pointer (some ⟨sb, 0, none⟩))) rfl ?_)
  refine s_op (o_nilCheck rfl ?_)
  refine s_op (o_fieldAddr (k := 0) (fun _ => by kernel_rfl) rfl ?_)
  refine s_op (o_load1 (v := v) Try.underlying23 rfl rfl hH (seg_sub 1 rfl) (CellsAt.one rfl) ?_)
  refine s_op (o_callf (vs := #[v]) ca24 rfl (args1 rfl) (clone_v hH.all (l := now) (ho.sl.mono (seg_sub 0 rfl)) (by first | omega | (simp only [List.length_drop]; omega))) ?_)
  rintro _ w11 ⟨v5, s6, rfl, ho7, hv8, hX9⟩
  refine ⟨_, rfl, ?_⟩
  have hH10 : Has E w11 [s6, hs, [Hp.one sb (.cells #[v] 45 (0, 0))], R] := hX9.of_all1
  refine s_op (o_assign (v := v5) rfl ?_)
  refine s_nil ?_
  refine t_norm (hK4 _ _ ?_)
  refine wp_ret ?_
  refine c_ret1 Try.results23  (v := v5) rfl ?_
  exact ⟨_, _, rfl, hv8, hH10⟩
set_option maxHeartbeats 4000000 in
theorem same_c {E w : World} {R : List Hp} (hH : Has E w [R]) {va vb : Value} {a b : List Int} (hva : Ints R va a) (hvb : Ints R vb b) :
    Calls Try.prog 9 #[va, vb] w fun e w' => e = .returned (.bool (decide (a = b))) ∧ Has E w' [R] := by
  have hna := hva.le
  have hnb := hvb.le
  refine c_enter (args := [va, vb]) Try.func9 rfl Try.ntmps9 (by simp) ?_
  refine wp_seq_k fun K1 hK1 => ?_
  refine c_region ?_
  refine s_op (o_assign (v := (.bool false)) rfl ?_)
  refine s_nil ?_
  refine t_norm (hK1 _ _ ?_)
  refine wp_seq_k fun K2 hK2 => ?_
  refine wp_seq_k fun K3 hK3 => ?_
  refine c_region ?_
  refine s_op (o_move (v := va) rfl ?_)
  refine s_op (o_lenS Try.underlying23 rfl hva ?_)
  refine s_op (o_move (v := vb) rfl ?_)
  refine s_op (o_lenS Try.underlying23 rfl hvb ?_)
  refine s_op (o_neq (a := ((a.length : Nat) : Int)) (b := ((b.length : Nat) : Int)) rfl rfl ?_)
  refine s_nil ?_
  refine t_norm (hK3 _ _ ?_)
  refine c_cond rfl (fun h4 => ?_) (fun h4 => ?_)
  · -- ((a.length : Nat) : Int) ≠ ((b.length : Nat) : Int)
    refine wp_seq_k fun K5 hK5 => ?_
    refine c_region ?_
    refine s_op (o_assign (v := (.bool false)) rfl ?_)
    refine s_nil ?_
    refine t_norm (hK5 _ _ ?_)
    refine wp_ret ?_
    refine t_ret (c_ret1 Try.results9  (v := (.bool false)) rfl ?_)
    have e : a ≠ b := fun e => by
      subst e
      omega
    exact ⟨by rw [decide_eq_false e], hH⟩
  · -- not: ((a.length : Nat) : Int) ≠ ((b.length : Nat) : Int)
    refine wp_skip ?_
    refine t_norm (hK2 _ _ ?_)
    refine wp_seq_k fun K6 hK6 => ?_
    refine wp_seq_k fun K7 hK7 => ?_
    refine c_region ?_
    refine s_op (o_assign (v := (.int .i64 0)) rfl ?_)
    refine s_nil ?_
    refine t_norm (hK7 _ _ ?_)
    refine wp_block ?_
    let I9 : Nat → (Nat → Value) → World → Prop := fun n__ r__ w__ => ∃ (k : Nat), n__ = a.length - k ∧ Has E w__ [R] ∧ (k ≤ a.length) ∧ (∀ j, j < k → a[j]? = b[j]?) ∧ r__ 0 = va ∧ r__ 1 = vb ∧ r__ 5 = (.int .i64 (k : Int)) ∧ r__ 10 = (.bool (decide (((a.length : Nat) : Int) ≠ ((b.length : Nat) : Int))))
    refine c_loop I9 _ ⟨0, rfl, hH, Nat.zero_le _, (by omega), rfl, rfl, rfl, rfl⟩ ?_
    rintro n_ r12 w10 ⟨k, rfl, hH11, hk, he, e8_0, e8_1, e8_5, e8_10⟩
    refine wp_seq_k fun K13 hK13 => ?_
    refine wp_seq_k fun K14 hK14 => ?_
    refine c_region ?_
    refine s_op (o_move (v := (.int .i64 (k : Int))) e8_5 ?_)
    refine s_op (o_move (v := va) e8_0 ?_)
    refine s_op (o_lenS Try.underlying23 rfl hva ?_)
    refine s_op (o_lss (a := (k : Int)) (b := ((a.length : Nat) : Int)) rfl rfl ?_)
    refine s_nil ?_
    refine t_norm (hK14 _ _ ?_)
    refine c_cond rfl (fun h15 => ?_) (fun h15 => ?_)
    · -- (k : Int) < ((a.length : Nat) : Int)
      refine wp_skip ?_
      refine t_norm (hK13 _ _ ?_)
      refine wp_seq_k fun K16 hK16 => ?_
      refine wp_block ?_
      refine wp_seq_k fun K17 hK17 => ?_
      obtain ⟨x21, hx22⟩ : ∃ x_, a[((k : Int)).toNat]? = some x_ := get_some (by omega)
      obtain ⟨x26, hx27⟩ : ∃ x_, b[((k : Int)).toNat]? = some x_ := get_some (by omega)
      refine c_flow [R] (fun i_ => match i_ with | _ => []) (fun i_ v_ h_ => match i_ with | 0 => v_ = va ∧ h_ = [] | 1 => v_ = (.int .i64 (k : Int)) ∧ h_ = [] | 2 => ∃ (b18 : Nat) (o19 : Nat), v_ = (.pointer (some ⟨b18, o19, none⟩)) ∧ h_ = [] ∧ (CellsAt R b18 o19 [(.int .i64 x21)]) | 3 => v_ = (.int .i64 x21) ∧ h_ = [] | 4 => v_ = vb ∧ h_ = [] | 5 => v_ = (.int .i64 (k : Int)) ∧ h_ = [] | 6 => ∃ (b23 : Nat) (o24 : Nat), v_ = (.pointer (some ⟨b23, o24, none⟩)) ∧ h_ = [] ∧ (CellsAt R b23 o24 [(.int .i64 x26)]) | 7 => v_ = (.int .i64 x26) ∧ h_ = [] | 8 => v_ = (.bool (decide (x21 ≠ x26))) ∧ h_ = [] | _ => True) mixed (by kernel_rfl) (flow_has (cs := []) hH11 rfl) ?_ ?_
      · intro i_ o_ ho_ r' w' G hs_ ht
        match i_, ho_ with
        | 0, ho_ =>
          obtain rfl := Option.some.inj ho_
          have e0 : r' 0 = va := (ht.was 0 (by kernel_rfl)).trans e8_0
          have hG := ht.has.drop
          refine o_move (v := va) e0 ?_
          exact ⟨_, ⟨rfl, rfl⟩, hG⟩
        | 1, ho_ =>
          obtain rfl := Option.some.inj ho_
          have e5 : r' 5 = (.int .i64 (k : Int)) := (ht.was 5 (by kernel_rfl)).trans e8_5
          have hG := ht.has.drop
          refine o_move (v := (.int .i64 (k : Int))) e5 ?_
          exact ⟨_, ⟨rfl, rfl⟩, hG⟩
        | 2, ho_ =>
          obtain rfl := Option.some.inj ho_
          obtain ⟨e17, eh0⟩ := (ht.done 0 _ rfl rfl).1
          obtain ⟨e18, eh1⟩ := (ht.done 1 _ rfl rfl).1
          have hG := ht.has.drop
          refine o_index1 Try.underlying23 ti3 e17 hva e18 (by omega) hx22 fun b18 o19 hc20 => ?_
          exact ⟨_, ⟨b18, o19, rfl, rfl, hc20⟩, hG⟩
        | 3, ho_ =>
          obtain rfl := Option.some.inj ho_
          obtain ⟨b18, o19, e19, eh2, hc20⟩ := (ht.done 2 _ rfl rfl).1
          have hG := ht.has.drop
          refine o_load1 (v := (.int .i64 x21)) Try.underlying3 rfl e19 hG (ht.fr R (by simp)) hc20 ?_
          exact ⟨_, ⟨rfl, rfl⟩, hG⟩
        | 4, ho_ =>
          obtain rfl := Option.some.inj ho_
          have e1 : r' 1 = vb := (ht.was 1 (by kernel_rfl)).trans e8_1
          have hG := ht.has.drop
          refine o_move (v := vb) e1 ?_
          exact ⟨_, ⟨rfl, rfl⟩, hG⟩
        | 5, ho_ =>
          obtain rfl := Option.some.inj ho_
          have e5 : r' 5 = (.int .i64 (k : Int)) := (ht.was 5 (by kernel_rfl)).trans e8_5
          have hG := ht.has.drop
          refine o_move (v := (.int .i64 (k : Int))) e5 ?_
          exact ⟨_, ⟨rfl, rfl⟩, hG⟩
        | 6, ho_ =>
          obtain rfl := Option.some.inj ho_
          obtain ⟨e21, eh4⟩ := (ht.done 4 _ rfl rfl).1
          obtain ⟨e22, eh5⟩ := (ht.done 5 _ rfl rfl).1
          have hG := ht.has.drop
          refine o_index1 Try.underlying23 ti3 e21 hvb e22 (by omega) hx27 fun b23 o24 hc25 => ?_
          exact ⟨_, ⟨b23, o24, rfl, rfl, hc25⟩, hG⟩
        | 7, ho_ =>
          obtain rfl := Option.some.inj ho_
          obtain ⟨b23, o24, e23, eh6, hc25⟩ := (ht.done 6 _ rfl rfl).1
          have hG := ht.has.drop
          refine o_load1 (v := (.int .i64 x26)) Try.underlying3 rfl e23 hG (ht.fr R (by simp)) hc25 ?_
          exact ⟨_, ⟨rfl, rfl⟩, hG⟩
        | 8, ho_ =>
          obtain rfl := Option.some.inj ho_
          obtain ⟨b18, o19, e19, eh2, hc20⟩ := (ht.done 2 _ rfl rfl).1
          obtain ⟨e20, eh3⟩ := (ht.done 3 _ rfl rfl).1
          obtain ⟨b23, o24, e23, eh6, hc25⟩ := (ht.done 6 _ rfl rfl).1
          obtain ⟨e24, eh7⟩ := (ht.done 7 _ rfl rfl).1
          have hG := ht.has.drop
          refine o_neq (a := x21) (b := x26) e20 e24 ?_
          exact ⟨_, ⟨rfl, rfl⟩, hG⟩
        | i_ + 9, ho_ => exact absurd ho_ (by simp)
      · intro vs28 hs29 w30 hT31 hH32
        obtain ⟨e0_, eh0_⟩ := hT31 0 _ rfl
        obtain ⟨e1_, eh1_⟩ := hT31 1 _ rfl
        obtain ⟨b18, o19, e2_, eh2_, hc20⟩ := hT31 2 _ rfl
        obtain ⟨e3_, eh3_⟩ := hT31 3 _ rfl
        obtain ⟨e4_, eh4_⟩ := hT31 4 _ rfl
        obtain ⟨e5_, eh5_⟩ := hT31 5 _ rfl
        obtain ⟨b23, o24, e6_, eh6_, hc25⟩ := hT31 6 _ rfl
        obtain ⟨e7_, eh7_⟩ := hT31 7 _ rfl
        obtain ⟨e8_, eh8_⟩ := hT31 8 _ rfl
        have hH33 : Has E w30 ([R] ++ []) := flow_back (cs := []) hH32 (by show (hs29 0 ++ (hs29 1 ++ (hs29 2 ++ (hs29 3 ++ (hs29 4 ++ (hs29 5 ++ (hs29 6 ++ (hs29 7 ++ (hs29 8 ++ []))))))))) = _; rw [eh0_, eh1_, eh2_, eh3_, eh4_, eh5_, eh6_, eh7_, eh8_]; rfl)
        generalize hr35 : puts vs28 _ 0 _ = r34
        have e36_0 : r34 0 = va := by rw [← hr35]; exact e8_0
        have e36_1 : r34 1 = vb := by rw [← hr35]; exact e8_1
        have e36_5 : r34 5 = (.int .i64 (k : Int)) := by rw [← hr35]; exact e8_5
        have e36_10 : r34 10 = (.bool (decide (((a.length : Nat) : Int) ≠ ((b.length : Nat) : Int)))) := by rw [← hr35]; exact e8_10
        have e36_14 : r34 14 = (.bool (decide ((k : Int) < ((a.length : Nat) : Int)))) := by rw [← hr35]; exact rfl
        have e36_25 : r34 25 = (.bool (decide (x21 ≠ x26))) := by rw [← hr35]; exact e8_
        refine t_norm (hK17 _ _ ?_)
        refine c_cond e36_25 (fun h37 => ?_) (fun h37 => ?_)
        · -- x21 ≠ x26
          refine wp_seq_k fun K38 hK38 => ?_
          refine c_region ?_
          refine s_op (o_assign (v := (.bool false)) rfl ?_)
          refine s_nil ?_
          refine t_norm (hK38 _ _ ?_)
          refine wp_ret ?_
          refine b_ret (t_ret (t_ret (b_ret (t_ret (c_ret1 Try.results9  (v := (.bool false)) rfl ?_)))))
          have e : a ≠ b := fun e => by
            subst e
            have e1 := hx22.symm.trans hx27
            cases e1
            omega
          exact ⟨by rw [decide_eq_false e], hH33⟩
        · -- not: x21 ≠ x26
          refine wp_skip ?_
          refine b_norm ?_
          refine t_norm (hK16 _ _ ?_)
          refine c_region ?_
          refine s_op (o_move (v := (.int .i64 (k : Int))) e36_5 ?_)
          refine s_op (o_add (a := (k : Int)) (b := 1) rfl rfl (w64 (by omega) (by omega)) ?_)
          refine s_op (o_assign (v := (.int .i64 ((k : Int) + 1))) rfl ?_)
          refine s_nil ?_
          refine t_norm ⟨a.length - (k + 1), _, rfl, ?_, ?_⟩
          · omega
          · exact ⟨(k + 1), rfl, hH33, (by omega), (same_step he (by simpa using hx22) (by simpa using hx27) (by omega)), e36_0, e36_1, rfl, e36_10⟩
    · -- not: (k : Int) < ((a.length : Nat) : Int)
      refine wp_exit ?_
      refine t_exit (t_exit (x_in (?_)))
      refine t_norm (hK6 _ _ ?_)
      refine wp_seq_k fun K39 hK39 => ?_
      refine c_region ?_
      refine s_op (o_assign (v := (.bool true)) rfl ?_)
      refine s_nil ?_
      refine t_norm (hK39 _ _ ?_)
      refine wp_ret ?_
      refine c_ret1 Try.results9  (v := (.bool true)) rfl ?_
      have e : a = b := List.ext_getElem? fun j => by
        rcases Nat.lt_or_ge j k with g | g
        · exact he j g
        · rw [List.getElem?_eq_none (by omega), List.getElem?_eq_none (by omega)]
      exact ⟨by rw [decide_eq_true e], hH11⟩
end Go.Q
