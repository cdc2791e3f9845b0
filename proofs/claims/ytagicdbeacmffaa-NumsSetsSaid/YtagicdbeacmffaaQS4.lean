/-
  Parts of a walk: what functions of the program compute, each told by a theorem.
-/
import Derived.Test.YtagicdbeacmffaaQI
import Derived.Test.YtagicdbeacmffaaQS3
set_option linter.unusedVariables false
set_option linter.unusedSimpArgs false
namespace Go.Q
open Go.Proofs
set_option linter.unusedVariables false
set_option maxRecDepth 100000
attribute [local irreducible] wpList OK Code.wp
theorem clone_v {E w : World} {R : List Hp} (hH : Has E w [R]) {v : Value} {l : List Int} (hv : Ints R v l) (hl : l.length ≤ 1000000) :
    Calls Try.prog 48 #[v] w fun e w' => ∃ v' hs', e = .returned v' ∧ (l = [] ∨ Own 3 1 v' l.length (l.map iV) hs') ∧ Ints hs' v' l ∧ Has E w' [hs', R] := by
  obtain ⟨p, cap, rfl⟩ := Sl.form hv
  exact Calls.mono (clone_c hH hv hl) fun e w' ⟨v', hs', h1, h2, h3, h4⟩ => ⟨v', hs', h1, h2.imp And.right id, h3, h4⟩
set_option maxHeartbeats 4000000 in
theorem add_c {E w : World} {R hs : List Hp} {v : Value} {now : List Int} {sb : Nat} (hH : Has E w [hs, [Hp.one sb (.cells #[v] 81 (0, 0))], R]) (ho : Own 3 1 v now.length (now.map iV) hs) (hso : now.Pairwise (· < ·)) {vl : Value} {l : List Int} (hv : Ints R vl l) (hl : now.length + l.length ≤ 1000000) :
    Calls Try.prog 43 #[(.pointer (some ⟨sb, 0, none⟩)), vl] w fun e w' => ∃ (v' : Value) (hs' : List Hp) (now' : List Int), e = .returned (.int .i64 ((now'.length : Int) - (now.length : Int))) ∧ Own 3 1 v' now'.length (now'.map iV) hs' ∧ now'.Pairwise (· < ·) ∧ (∀ a, a ∈ now' ↔ a ∈ now ∨ a ∈ l) ∧ Has E w' [hs', [Hp.one sb (.cells #[v'] 81 (0, 0))], R] := by
  have hvl := hv.le
  refine c_enter (args := [(.pointer (some ⟨sb, 0, none⟩)), vl]) Try.func43 rfl Try.ntmps43 (by simp) ?_
  refine wp_seq_k fun K1 hK1 => ?_
  refine c_region ?_
  refine s_op (o_assign (v := (.int .i64 0)) rfl ?_)
  refine s_nil ?_
  refine t_norm (hK1 _ _ ?_)
  refine wp_seq_k fun K2 hK2 => ?_
  refine c_region ?_
  refine s_op (o_assign (v := (.int .i64 0)) rfl ?_)
  refine s_nil ?_
  refine t_norm (hK2 _ _ ?_)
  refine wp_seq_k fun K3 hK3 => ?_
  refine wp_seq_k fun K4 hK4 => ?_
  refine c_region ?_
  refine s_op (o_move (v := (.pointer (some ⟨sb, 0, none⟩))) rfl ?_)
  refine s_op (o_pnnil (p := some _) Try.underlying57 rfl rfl ?_)
  simp only [Option.isNone_some, Option.isNone_none, Bool.not_true, Bool.not_false]
  refine s_nil ?_
  refine t_norm (hK4 _ _ ?_)
  refine c_true rfl rfl ?_
  refine wp_seq_k fun K5 hK5 => ?_
  refine c_region ?_
  refine s_op (o_move (v := vl) rfl ?_)
  refine s_op (o_lenS Try.underlying28 rfl hv ?_)
  refine s_op (o_move (v := (.int .i64 0)) rfl ?_)
  refine s_nil ?_
  refine t_norm (hK5 _ _ ?_)
  refine wp_block ?_
  let I6 : Nat → (Nat → Value) → World → Prop := fun n r w => ∃ (k : Nat) (va : Value) (ha : List Hp) (cur : List Int) (cnt : Int) (u1_7 u1_8 u1_9 u1_15 u1_16 u1_17 u1_18 u1_19 u1_20 u1_21 u1_22 u1_23 u1_24 u1_25 u1_26 u1_27 u1_28 u1_29 u1_30 u1_31 u1_32 u1_33 u1_34 u1_35 u1_36 u1_37 u1_38 u1_39 u1_40 u1_41 u1_42 : Value), n = l.length - k ∧ r = base [(.pointer (some ⟨sb, 0, none⟩)), vl, undef, undef, (.int .i64 0), (.int .i64 cnt), undef, u1_7, u1_8, u1_9, (.pointer (some ⟨sb, 0, none⟩)), (.bool true), vl, (.int .i64 ((l.length : Nat) : Int)), (.int .i64 (k : Int)), u1_15, u1_16, u1_17, u1_18, u1_19, u1_20, u1_21, u1_22, u1_23, u1_24, u1_25, u1_26, u1_27, u1_28, u1_29, u1_30, u1_31, u1_32, u1_33, u1_34, u1_35, u1_36, u1_37, u1_38, u1_39, u1_40, u1_41, u1_42, undef] ∧ Has E w [ha, [Hp.one sb (.cells #[va] 81 (0, 0))], R] ∧ (k ≤ l.length) ∧ (cnt = (cur.length : Int) - (now.length : Int)) ∧ (Own 3 1 va cur.length (cur.map iV) ha) ∧ (cur.Pairwise (· < ·)) ∧ (∀ a, a ∈ cur ↔ a ∈ now ∨ a ∈ l.take k) ∧ (cur.length ≤ now.length + k)
  rw [show Go.Q.fr 44 _ = Go.Q.fr 44 (base [(.pointer (some ⟨sb, 0, none⟩)), vl, undef, undef, (.int .i64 0), (.int .i64 0), undef, undef, undef, undef, (.pointer (some ⟨sb, 0, none⟩)), (.bool true), vl, (.int .i64 ((l.length : Nat) : Int)), (.int .i64 (0 : Int)), undef, undef, undef, undef, undef, undef, undef, undef, undef, undef, undef, undef, undef, undef, undef, undef, undef, undef, undef, undef, undef, undef, undef, undef, undef, undef, undef, undef, undef]) from fr_lit (by rfl)]
  refine c_loop I6 _ ⟨0, v, hs, now, 0, undef, undef, undef, undef, undef, undef, undef, undef, undef, undef, undef, undef, undef, undef, undef, undef, undef, undef, undef, undef, undef, undef, undef, undef, undef, undef, undef, undef, undef, undef, undef, rfl, rfl, hH, Nat.zero_le _, (by omega), ho, hso, (by simp), (by omega)⟩ ?_
  rintro n_ r_ w7 ⟨k, va, ha, cur, cnt, u1_7, u1_8, u1_9, u1_15, u1_16, u1_17, u1_18, u1_19, u1_20, u1_21, u1_22, u1_23, u1_24, u1_25, u1_26, u1_27, u1_28, u1_29, u1_30, u1_31, u1_32, u1_33, u1_34, u1_35, u1_36, u1_37, u1_38, u1_39, u1_40, u1_41, u1_42, rfl, rfl, hH8, hk, hn, hoa, hsc, hm, hc⟩
  refine wp_seq_k fun K9 hK9 => ?_
  refine c_region ?_
  refine s_op (o_lss (a := (k : Int)) (b := ((l.length : Nat) : Int)) rfl rfl ?_)
  refine s_nil ?_
  refine t_norm (hK9 _ _ ?_)
  refine wp_seq_k fun K10 hK10 => ?_
  refine c_cond rfl (fun h11 => ?_) (fun h11 => ?_)
  · -- (k : Int) < ((l.length : Nat) : Int)
    refine wp_skip ?_
    refine t_norm (hK10 _ _ ?_)
    refine wp_seq_k fun K12 hK12 => ?_
    refine wp_block ?_
    refine wp_seq_k fun K13 hK13 => ?_
    refine c_region ?_
    obtain ⟨x17, hx18⟩ : ∃ x, l[((k : Int)).toNat]? = some x := get_some (by omega)
    refine s_op (o_index1 Try.underlying28 ti3 rfl hv rfl (by omega) hx18 fun b14 o15 hc16 => ?_)
    refine s_op (o_load1 (v := (.int .i64 x17)) Try.underlying3 rfl rfl hH8 (seg_sub 2 rfl) hc16 ?_)
    refine s_op (o_assign (v := (.int .i64 x17)) rfl ?_)
    refine s_nil ?_
    refine t_norm (hK13 _ _ ?_)
    refine wp_seq_k fun K19 hK19 => ?_
    refine c_region ?_
    refine s_op (o_move (v := (.pointer (some ⟨sb, 0, none⟩))) rfl ?_)
    refine s_op (o_nilCheck rfl ?_)
    refine s_op (o_fieldAddr (k := 0) (fun _ => by kernel_rfl) rfl ?_)
    refine s_op (o_load1 (v := va) Try.underlying28 rfl rfl hH8 (seg_sub 1 rfl) (CellsAt.one rfl) ?_)
    refine s_op (o_move (v := (.int .i64 x17)) rfl ?_)
    refine s_op (o_callf (vs := #[va, (.int .i64 x17)]) ca49 rfl (args2 rfl rfl) (bs_c hH8.all (l := cur) (hoa.sl.mono (seg_sub 0 rfl)) hsc (by omega) x17) ?_)
    rintro _ w26 ⟨p20, rfl, hp21, hlo22, hhi23, hX24⟩
    refine ⟨_, rfl, ?_⟩
    have hH25 := hX24.of_all
    refine s_op (o_move (v := (.tuple #[(.int .i64 (p20 : Int)), (.bool (decide (x17 ∈ cur)))])) rfl ?_)
    refine s_op (o_extract (v := (.int .i64 (p20 : Int))) rfl rfl ?_)
    refine s_op (o_extract (v := (.bool (decide (x17 ∈ cur)))) rfl rfl ?_)
    refine s_op (o_assign (v := (.int .i64 (p20 : Int))) rfl ?_)
    refine s_op (o_assign (v := (.bool (decide (x17 ∈ cur)))) rfl ?_)
    refine s_nil ?_
    refine t_norm (hK19 _ _ ?_)
    refine wp_seq_k fun K27 hK27 => ?_
    refine c_region ?_
    refine s_op (o_move (v := (.bool (decide (x17 ∈ cur)))) rfl ?_)
    refine s_op (o_not rfl ?_)
    rw [not_dec]
    refine s_nil ?_
    refine t_norm (hK27 _ _ ?_)
    refine c_cond rfl (fun h28 => ?_) (fun h28 => ?_)
    · -- ¬ (x17 ∈ cur)
      refine wp_seq_k fun K29 hK29 => ?_
      refine c_region ?_
      refine s_op (o_move (v := (.pointer (some ⟨sb, 0, none⟩))) rfl ?_)
      refine s_op (o_move (v := (.pointer (some ⟨sb, 0, none⟩))) rfl ?_)
      refine s_op (o_nilCheck rfl ?_)
      refine s_op (o_fieldAddr (k := 0) (fun _ => by kernel_rfl) rfl ?_)
      refine s_op (o_load1 (v := va) Try.underlying28 rfl rfl hH25 (seg_sub 1 rfl) (CellsAt.one rfl) ?_)
      refine s_op (o_move (v := (.int .i64 (p20 : Int))) rfl ?_)
      refine s_op (o_move (v := (.int .i64 x17)) rfl ?_)
      refine s_op (o_buildSlice (ps := #[(0, (.int .i64 x17))]) (cells := #[(.int .i64 x17)]) Try.underlying28 ti3 (by decide) (parts1 rfl) (by kernel_rfl) hH25 fun b30 w31 hH32 => ?_)
      refine s_op (o_callf (vs := #[va, (.int .i64 (p20 : Int)), (.slice (some ⟨b30, 0, none⟩) 1 1)]) ca50 rfl (args3 rfl rfl rfl) (ins_own p20 (hH32.front 1 rfl).all2 hoa (by omega) (by omega)) ?_)
      rintro _ w38 ⟨v33, s34, rfl, ho35, hX36⟩
      refine ⟨_, rfl, ?_⟩
      have hH37 := hX36.of_all1
      refine s_op (o_nilCheck rfl ?_)
      refine s_op (o_fieldAddr (k := 0) (fun _ => by kernel_rfl) rfl ?_)
      refine s_eff (o_store1 (c' := #[v33]) ti28 rfl rfl ho35.one (by simp) rfl (hH37.front 1 rfl) fun w39 hH40 => ?_)
      refine s_nil ?_
      refine t_norm (hK29 _ _ ?_)
      refine c_region ?_
      refine s_op (o_move (v := (.int .i64 cnt)) rfl ?_)
      refine s_op (o_add (a := cnt) (b := 1) rfl rfl (w64 (by omega) (by omega)) ?_)
      refine s_op (o_assign (v := (.int .i64 (cnt + 1))) rfl ?_)
      refine s_nil ?_
      refine b_norm ?_
      refine t_norm (hK12 _ _ ?_)
      refine c_region ?_
      refine s_op (o_add (a := (k : Int)) (b := 1) rfl rfl (w64 (by omega) (by omega)) ?_)
      refine s_op (o_move (v := (.int .i64 ((k : Int) + 1))) rfl ?_)
      refine s_nil ?_
      have hH41 : Has E w39 [s34, [Hp.one sb (.cells #[v33] 81 (0, 0))], R] := (((hH40.front 2 rfl).front 1 rfl).front 2 rfl).first 3 rfl
      refine t_norm ⟨l.length - (k + 1), base [(.pointer (some ⟨sb, 0, none⟩)), vl, undef, undef, (.int .i64 0), (.int .i64 (cnt + 1)), undef, (.int .i64 x17), (.int .i64 (p20 : Int)), (.bool (decide (x17 ∈ cur))), (.pointer (some ⟨sb, 0, none⟩)), (.bool true), vl, (.int .i64 ((l.length : Nat) : Int)), (.int .i64 ((k : Int) + 1)), (.bool (decide ((k : Int) < ((l.length : Nat) : Int)))), (.pointer (some ⟨b14, o15, none⟩)), (.int .i64 x17), (.tuple #[(.int .i64 (p20 : Int)), (.bool (decide (x17 ∈ cur)))]), (.pointer (some ⟨sb, 0, none⟩)), (.pointer (some ⟨sb, 0, none⟩)), (.pointer (some ⟨sb, 0, none⟩)), va, (.int .i64 x17), (.tuple #[(.int .i64 (p20 : Int)), (.bool (decide (x17 ∈ cur)))]), (.int .i64 (p20 : Int)), (.bool (decide (x17 ∈ cur))), (.bool (decide (x17 ∈ cur))), (.bool (decide (¬ (x17 ∈ cur)))), (.pointer (some ⟨sb, 0, none⟩)), (.pointer (some ⟨sb, 0, none⟩)), (.pointer (some ⟨sb, 0, none⟩)), (.pointer (some ⟨sb, 0, none⟩)), va, (.int .i64 (p20 : Int)), (.int .i64 x17), (.slice (some ⟨b30, 0, none⟩) 1 1), v33, (.pointer (some ⟨sb, 0, none⟩)), (.pointer (some ⟨sb, 0, none⟩)), (.int .i64 cnt), (.int .i64 (cnt + 1)), (.int .i64 ((k : Int) + 1)), undef], fr_lit (by rfl), ?_, ?_⟩
      · omega
      · exact ⟨(k + 1), v33, s34, (cur.take p20 ++ [x17] ++ cur.drop p20), (cnt + 1), _, _, _, _, _, _, _, _, _, _, _, _, _, _, _, _, _, _, _, _, _, _, _, _, _, _, _, _, _, _, _, rfl, rfl, hH41, (by omega), (by simp only [List.length_append, List.length_take, List.length_drop, List.length_cons, List.length_nil]; omega), (ho35), (ins_sorted hsc hlo22 hhi23 (by assumption)), (mem_step_add hm (by simpa using hx18)), (by simp only [List.length_append, List.length_take, List.length_drop, List.length_cons, List.length_nil]; omega)⟩
    · -- not: ¬ (x17 ∈ cur)
      refine wp_skip ?_
      refine b_norm ?_
      refine t_norm (hK12 _ _ ?_)
      refine c_region ?_
      refine s_op (o_add (a := (k : Int)) (b := 1) rfl rfl (w64 (by omega) (by omega)) ?_)
      refine s_op (o_move (v := (.int .i64 ((k : Int) + 1))) rfl ?_)
      refine s_nil ?_
      refine t_norm ⟨l.length - (k + 1), base [(.pointer (some ⟨sb, 0, none⟩)), vl, undef, undef, (.int .i64 0), (.int .i64 cnt), undef, (.int .i64 x17), (.int .i64 (p20 : Int)), (.bool (decide (x17 ∈ cur))), (.pointer (some ⟨sb, 0, none⟩)), (.bool true), vl, (.int .i64 ((l.length : Nat) : Int)), (.int .i64 ((k : Int) + 1)), (.bool (decide ((k : Int) < ((l.length : Nat) : Int)))), (.pointer (some ⟨b14, o15, none⟩)), (.int .i64 x17), (.tuple #[(.int .i64 (p20 : Int)), (.bool (decide (x17 ∈ cur)))]), (.pointer (some ⟨sb, 0, none⟩)), (.pointer (some ⟨sb, 0, none⟩)), (.pointer (some ⟨sb, 0, none⟩)), va, (.int .i64 x17), (.tuple #[(.int .i64 (p20 : Int)), (.bool (decide (x17 ∈ cur)))]), (.int .i64 (p20 : Int)), (.bool (decide (x17 ∈ cur))), (.bool (decide (x17 ∈ cur))), (.bool (decide (¬ (x17 ∈ cur)))), u1_29, u1_30, u1_31, u1_32, u1_33, u1_34, u1_35, u1_36, u1_37, u1_38, u1_39, u1_40, u1_41, (.int .i64 ((k : Int) + 1)), undef], fr_lit (by rfl), ?_, ?_⟩
      · omega
      · exact ⟨(k + 1), va, ha, cur, cnt, _, _, _, _, _, _, _, _, _, _, _, _, _, _, _, _, _, _, _, _, _, _, _, _, _, _, _, _, _, _, _, rfl, rfl, hH25, (by omega), (hn), (hoa), (hsc), (mem_step_in hm (by simpa using hx18) (Classical.not_not.1 (by assumption))), (by omega)⟩
  · -- not: (k : Int) < ((l.length : Nat) : Int)
    refine wp_exit ?_
    refine t_exit (t_exit (x_in (?_)))
    refine t_norm (hK3 _ _ ?_)
    refine wp_seq_k fun K42 hK42 => ?_
    refine c_region ?_
    refine s_op (o_move (v := (.int .i64 cnt)) rfl ?_)
    refine s_op (o_assign (v := (.int .i64 cnt)) rfl ?_)
    refine s_nil ?_
    refine t_norm (hK42 _ _ ?_)
    refine wp_ret ?_
    refine c_ret1 Try.results43 (v := (.int .i64 cnt)) rfl ?_
    have e : k = l.length := by omega
    subst e
    rw [List.take_of_length_le (Nat.le_refl _)] at hm
    exact ⟨va, ha, cur, by rw [hn], hoa, hsc, hm, hH8⟩
set_option maxHeartbeats 4000000 in
theorem of_c {E w : World} {R : List Hp} (hH : Has E w [R]) {vl : Value} {l : List Int} (hv : Ints R vl l) (hl : l.length ≤ 1000000) :
    Calls Try.prog 34 #[vl] w fun e w' => ∃ (b : Nat) (v' : Value) (hs' : List Hp) (now' : List Int), e = .returned (.pointer (some ⟨b, 0, none⟩)) ∧ Own 3 1 v' now'.length (now'.map iV) hs' ∧ now'.Pairwise (· < ·) ∧ (∀ a, a ∈ now' ↔ a ∈ l) ∧ Has E w' [hs', [Hp.one b (.cells #[v'] 81 (0, 0))], R] := by
  refine c_enter (args := [vl]) Try.func34 rfl Try.ntmps34 (by simp) ?_
  refine wp_seq_k fun K1 hK1 => ?_
  refine c_region ?_
  refine s_op (o_assign (v := (.pointer none)) rfl ?_)
  refine s_nil ?_
  refine t_norm (hK1 _ _ ?_)
  refine wp_seq_k fun K2 hK2 => ?_
  refine c_region ?_
  refine s_op (o_sight (v := (.agg #[(.slice none 0 0)])) (fun _ => by kernel_rfl) ?_)
  refine s_op (o_box (cs := #[(.slice none 0 0)]) rfl rfl hH fun b3 w4 hH5 => ?_)
  refine s_op (o_assign (v := (.pointer (some ⟨b3, 0, none⟩))) rfl ?_)
  refine s_nil ?_
  refine t_norm (hK2 _ _ ?_)
  refine wp_seq_k fun K6 hK6 => ?_
  refine c_region ?_
  refine s_op (o_move (v := (.pointer (some ⟨b3, 0, none⟩))) rfl ?_)
  refine s_op (o_move (v := vl) rfl ?_)
  refine s_op (o_callf (vs := #[(.pointer (some ⟨b3, 0, none⟩)), vl]) ca43 rfl (args2 rfl rfl) (add_c (hs := []) (now := []) (Has.nil hH5.all1) (Own.nil 3 1) List.Pairwise.nil (hv.mono (seg_sub 0 rfl)) (by simp only [List.length_nil]; omega)) ?_)
  rintro _ w15 ⟨v7, s8, now9, rfl, ho10, hso11, hm12, hX13⟩
  refine ⟨_, rfl, ?_⟩
  have hH14 := hX13.of_all2
  refine s_nil ?_
  refine t_norm (hK6 _ _ ?_)
  refine wp_seq_k fun K16 hK16 => ?_
  refine c_region ?_
  refine s_op (o_move (v := (.pointer (some ⟨b3, 0, none⟩))) rfl ?_)
  refine s_op (o_assign (v := (.pointer (some ⟨b3, 0, none⟩))) rfl ?_)
  refine s_nil ?_
  refine t_norm (hK16 _ _ ?_)
  refine wp_ret ?_
  refine c_ret1 Try.results34 (v := (.pointer (some ⟨b3, 0, none⟩))) rfl ?_
  exact ⟨_, _, _, _, rfl, ho10, hso11, fun a => by rw [hm12]; simp, hH14⟩
set_option maxHeartbeats 4000000 in
theorem list_c {E w : World} {R hs : List Hp} {v : Value} {now : List Int} {sb : Nat} (hH : Has E w [hs, [Hp.one sb (.cells #[v] 81 (0, 0))], R]) (ho : Own 3 1 v now.length (now.map iV) hs) (hso : now.Pairwise (· < ·)) (hl : now.length ≤ 1000000) :
    Calls Try.prog 39 #[(.pointer (some ⟨sb, 0, none⟩))] w fun e w' => ∃ v' hs', e = .returned v' ∧ Ints hs' v' now ∧ Has E w' [hs', hs, [Hp.one sb (.cells #[v] 81 (0, 0))], R] := by
  refine c_enter (args := [(.pointer (some ⟨sb, 0, none⟩))]) Try.func39 rfl Try.ntmps39 (by simp) ?_
  refine wp_seq_k fun K1 hK1 => ?_
  refine c_region ?_
  refine s_op (o_assign (v := (.slice none 0 0)) rfl ?_)
  refine s_nil ?_
  refine t_norm (hK1 _ _ ?_)
  refine wp_seq_k fun K2 hK2 => ?_
  refine wp_seq_k fun K3 hK3 => ?_
  refine c_region ?_
  refine s_op (o_move (v := (.pointer (some ⟨sb, 0, none⟩))) rfl ?_)
  refine s_op (o_pnil (p := some _) Try.underlying57 rfl rfl ?_)
  simp only [Option.isNone_some, Option.isNone_none, Bool.not_true, Bool.not_false]
  refine s_nil ?_
  refine t_norm (hK3 _ _ ?_)
  refine c_false rfl rfl ?_
  refine wp_skip ?_
  refine t_norm (hK2 _ _ ?_)
  refine wp_seq_k fun K4 hK4 => ?_
  refine c_region ?_
  refine s_op (o_move (v := (.pointer (some ⟨sb, 0, none⟩))) rfl ?_)
  refine s_op (o_nilCheck rfl ?_)
  refine s_op (o_fieldAddr (k := 0) (fun _ => by kernel_rfl) rfl ?_)
  refine s_op (o_load1 (v := v) Try.underlying28 rfl rfl hH (seg_sub 1 rfl) (CellsAt.one rfl) ?_)
  refine s_op (o_callf (vs := #[v]) ca48 rfl (args1 rfl) (clone_v hH.all (l := now) (ho.sl.mono (seg_sub 0 rfl)) (by first | omega | (simp only [List.length_drop]; omega))) ?_)
  rintro _ w11 ⟨v5, s6, rfl, ho7, hv8, hX9⟩
  refine ⟨_, rfl, ?_⟩
  have hH10 := hX9.of_all1
  refine s_op (o_assign (v := v5) rfl ?_)
  refine s_nil ?_
  refine t_norm (hK4 _ _ ?_)
  refine wp_ret ?_
  refine c_ret1 Try.results39 (v := v5) rfl ?_
  exact ⟨_, _, rfl, hv8, hH10⟩
set_option maxHeartbeats 4000000 in
theorem same_c {E w : World} {R : List Hp} (hH : Has E w [R]) {va vb : Value} {a b : List Int} (hva : Ints R va a) (hvb : Ints R vb b) :
    Calls Try.prog 38 #[va, vb] w fun e w' => e = .returned (.bool (decide (a = b))) ∧ Has E w' [R] := by
  have hna := hva.le
  have hnb := hvb.le
  refine c_enter (args := [va, vb]) Try.func38 rfl Try.ntmps38 (by simp) ?_
  refine wp_seq_k fun K1 hK1 => ?_
  refine c_region ?_
  refine s_op (o_assign (v := (.bool false)) rfl ?_)
  refine s_nil ?_
  refine t_norm (hK1 _ _ ?_)
  refine wp_seq_k fun K2 hK2 => ?_
  refine wp_seq_k fun K3 hK3 => ?_
  refine c_region ?_
  refine s_op (o_move (v := va) rfl ?_)
  refine s_op (o_lenS Try.underlying28 rfl hva ?_)
  refine s_op (o_move (v := vb) rfl ?_)
  refine s_op (o_lenS Try.underlying28 rfl hvb ?_)
  refine s_op (o_neq (a := ((a.length : Nat) : Int)) (b := ((b.length : Nat) : Int)) rfl rfl ?_)
  refine s_nil ?_
  refine t_norm (hK3 _ _ ?_)
  refine c_cond rfl (fun h4 => ?_) (fun h4 => ?_)
  · -- ((a.length : Nat) : Int) ≠ ((b.length : Nat) : Int)
    refine wp_seq_k fun K5 hK5 => ?_
    refine c_region ?_
    refine s_op (o_assign (v := (.bool false)) rfl ?_)
    refine s_nil ?_
    refine t_norm (hK5 _ _ ?_)
    refine wp_ret ?_
    refine t_ret (c_ret1 Try.results38 (v := (.bool false)) rfl ?_)
    have e : a ≠ b := fun e => by
      subst e
      omega
    exact ⟨by rw [decide_eq_false e], hH⟩
  · -- not: ((a.length : Nat) : Int) ≠ ((b.length : Nat) : Int)
    refine wp_skip ?_
    refine t_norm (hK2 _ _ ?_)
    refine wp_seq_k fun K6 hK6 => ?_
    refine wp_seq_k fun K7 hK7 => ?_
    refine c_region ?_
    refine s_op (o_assign (v := (.int .i64 0)) rfl ?_)
    refine s_nil ?_
    refine t_norm (hK7 _ _ ?_)
    refine wp_block ?_
    let I8 : Nat → (Nat → Value) → World → Prop := fun n r w => ∃ (k : Nat) (u1_4 u1_11 u1_12 u1_13 u1_14 u1_15 u1_16 u1_17 u1_18 u1_19 u1_20 u1_21 u1_22 u1_23 u1_24 u1_25 : Value), n = a.length - k ∧ r = base [va, vb, undef, undef, u1_4, (.int .i64 (k : Int)), va, (.int .i64 ((a.length : Nat) : Int)), vb, (.int .i64 ((b.length : Nat) : Int)), (.bool (decide (((a.length : Nat) : Int) ≠ ((b.length : Nat) : Int)))), u1_11, u1_12, u1_13, u1_14, u1_15, u1_16, u1_17, u1_18, u1_19, u1_20, u1_21, u1_22, u1_23, u1_24, u1_25] ∧ Has E w [R] ∧ (k ≤ a.length) ∧ (∀ j, j < k → a[j]? = b[j]?)
    rw [show Go.Q.fr 26 _ = Go.Q.fr 26 (base [va, vb, undef, undef, (.bool false), (.int .i64 (0 : Int)), va, (.int .i64 ((a.length : Nat) : Int)), vb, (.int .i64 ((b.length : Nat) : Int)), (.bool (decide (((a.length : Nat) : Int) ≠ ((b.length : Nat) : Int)))), undef, undef, undef, undef, undef, undef, undef, undef, undef, undef, undef, undef, undef, undef, undef]) from fr_lit (by rfl)]
    refine c_loop I8 _ ⟨0, (.bool false), undef, undef, undef, undef, undef, undef, undef, undef, undef, undef, undef, undef, undef, undef, undef, rfl, rfl, hH, Nat.zero_le _, (by omega)⟩ ?_
    rintro n_ r_ w9 ⟨k, u1_4, u1_11, u1_12, u1_13, u1_14, u1_15, u1_16, u1_17, u1_18, u1_19, u1_20, u1_21, u1_22, u1_23, u1_24, u1_25, rfl, rfl, hH10, hk, he⟩
    refine wp_seq_k fun K11 hK11 => ?_
    refine wp_seq_k fun K12 hK12 => ?_
    refine c_region ?_
    refine s_op (o_move (v := (.int .i64 (k : Int))) rfl ?_)
    refine s_op (o_move (v := va) rfl ?_)
    refine s_op (o_lenS Try.underlying28 rfl hva ?_)
    refine s_op (o_lss (a := (k : Int)) (b := ((a.length : Nat) : Int)) rfl rfl ?_)
    refine s_nil ?_
    refine t_norm (hK12 _ _ ?_)
    refine c_cond rfl (fun h13 => ?_) (fun h13 => ?_)
    · -- (k : Int) < ((a.length : Nat) : Int)
      refine wp_skip ?_
      refine t_norm (hK11 _ _ ?_)
      refine wp_seq_k fun K14 hK14 => ?_
      refine wp_block ?_
      refine wp_seq_k fun K15 hK15 => ?_
      obtain ⟨x19, hx20⟩ : ∃ x, a[((k : Int)).toNat]? = some x := get_some (by omega)
      obtain ⟨x24, hx25⟩ : ∃ x, b[((k : Int)).toNat]? = some x := get_some (by omega)
      refine c_flow [R] (fun i_ => match i_ with | _ => []) (fun i_ v_ h_ => match i_ with | 0 => v_ = va ∧ h_ = [] | 1 => v_ = (.int .i64 (k : Int)) ∧ h_ = [] | 2 => ∃ (b16 : Nat) (o17 : Nat), v_ = (.pointer (some ⟨b16, o17, none⟩)) ∧ h_ = [] ∧ (CellsAt R b16 o17 [(.int .i64 x19)]) | 3 => v_ = (.int .i64 x19) ∧ h_ = [] | 4 => v_ = vb ∧ h_ = [] | 5 => v_ = (.int .i64 (k : Int)) ∧ h_ = [] | 6 => ∃ (b21 : Nat) (o22 : Nat), v_ = (.pointer (some ⟨b21, o22, none⟩)) ∧ h_ = [] ∧ (CellsAt R b21 o22 [(.int .i64 x24)]) | 7 => v_ = (.int .i64 x24) ∧ h_ = [] | 8 => v_ = (.bool (decide (x19 ≠ x24))) ∧ h_ = [] | _ => True) mixed (by kernel_rfl) (flow_has (cs := []) hH10 rfl) ?_ ?_
      · intro i_ o_ ho_ r' w' G hs_ ht
        match i_, ho_ with
        | 0, ho_ =>
          obtain rfl := Option.some.inj ho_
          have e0 : r' 0 = va := ht.was 0 (by kernel_rfl)
          have hG := ht.has.drop
          refine o_move (v := va) e0 ?_
          exact ⟨_, ⟨rfl, rfl⟩, hG⟩
        | 1, ho_ =>
          obtain rfl := Option.some.inj ho_
          have e5 : r' 5 = (.int .i64 (k : Int)) := ht.was 5 (by kernel_rfl)
          have hG := ht.has.drop
          refine o_move (v := (.int .i64 (k : Int))) e5 ?_
          exact ⟨_, ⟨rfl, rfl⟩, hG⟩
        | 2, ho_ =>
          obtain rfl := Option.some.inj ho_
          obtain ⟨e17, eh0⟩ := (ht.done 0 _ rfl rfl).1
          obtain ⟨e18, eh1⟩ := (ht.done 1 _ rfl rfl).1
          have hG := ht.has.drop
          refine o_index1 Try.underlying28 ti3 e17 hva e18 (by omega) hx20 fun b16 o17 hc18 => ?_
          exact ⟨_, ⟨b16, o17, rfl, rfl, hc18⟩, hG⟩
        | 3, ho_ =>
          obtain rfl := Option.some.inj ho_
          obtain ⟨b16, o17, e19, eh2, hc18⟩ := (ht.done 2 _ rfl rfl).1
          have hG := ht.has.drop
          refine o_load1 (v := (.int .i64 x19)) Try.underlying3 rfl e19 hG (ht.fr _ (by simp)) hc18 ?_
          exact ⟨_, ⟨rfl, rfl⟩, hG⟩
        | 4, ho_ =>
          obtain rfl := Option.some.inj ho_
          have e1 : r' 1 = vb := ht.was 1 (by kernel_rfl)
          have hG := ht.has.drop
          refine o_move (v := vb) e1 ?_
          exact ⟨_, ⟨rfl, rfl⟩, hG⟩
        | 5, ho_ =>
          obtain rfl := Option.some.inj ho_
          have e5 : r' 5 = (.int .i64 (k : Int)) := ht.was 5 (by kernel_rfl)
          have hG := ht.has.drop
          refine o_move (v := (.int .i64 (k : Int))) e5 ?_
          exact ⟨_, ⟨rfl, rfl⟩, hG⟩
        | 6, ho_ =>
          obtain rfl := Option.some.inj ho_
          obtain ⟨e21, eh4⟩ := (ht.done 4 _ rfl rfl).1
          obtain ⟨e22, eh5⟩ := (ht.done 5 _ rfl rfl).1
          have hG := ht.has.drop
          refine o_index1 Try.underlying28 ti3 e21 hvb e22 (by omega) hx25 fun b21 o22 hc23 => ?_
          exact ⟨_, ⟨b21, o22, rfl, rfl, hc23⟩, hG⟩
        | 7, ho_ =>
          obtain rfl := Option.some.inj ho_
          obtain ⟨b21, o22, e23, eh6, hc23⟩ := (ht.done 6 _ rfl rfl).1
          have hG := ht.has.drop
          refine o_load1 (v := (.int .i64 x24)) Try.underlying3 rfl e23 hG (ht.fr _ (by simp)) hc23 ?_
          exact ⟨_, ⟨rfl, rfl⟩, hG⟩
        | 8, ho_ =>
          obtain rfl := Option.some.inj ho_
          obtain ⟨b16, o17, e19, eh2, hc18⟩ := (ht.done 2 _ rfl rfl).1
          obtain ⟨e20, eh3⟩ := (ht.done 3 _ rfl rfl).1
          obtain ⟨b21, o22, e23, eh6, hc23⟩ := (ht.done 6 _ rfl rfl).1
          obtain ⟨e24, eh7⟩ := (ht.done 7 _ rfl rfl).1
          have hG := ht.has.drop
          refine o_neq (a := x19) (b := x24) e20 e24 ?_
          exact ⟨_, ⟨rfl, rfl⟩, hG⟩
        | i_ + 9, ho_ => exact absurd ho_ (by simp)
      · intro vs26 hs27 w28 hT29 hH30
        obtain ⟨e0_, eh0_⟩ := hT29 0 _ rfl
        obtain ⟨e1_, eh1_⟩ := hT29 1 _ rfl
        obtain ⟨b16, o17, e2_, eh2_, hc18⟩ := hT29 2 _ rfl
        obtain ⟨e3_, eh3_⟩ := hT29 3 _ rfl
        obtain ⟨e4_, eh4_⟩ := hT29 4 _ rfl
        obtain ⟨e5_, eh5_⟩ := hT29 5 _ rfl
        obtain ⟨b21, o22, e6_, eh6_, hc23⟩ := hT29 6 _ rfl
        obtain ⟨e7_, eh7_⟩ := hT29 7 _ rfl
        obtain ⟨e8_, eh8_⟩ := hT29 8 _ rfl
        have hH31 : Has E w28 ([R] ++ []) := flow_back (cs := []) hH30 (by show (hs27 0 ++ (hs27 1 ++ (hs27 2 ++ (hs27 3 ++ (hs27 4 ++ (hs27 5 ++ (hs27 6 ++ (hs27 7 ++ (hs27 8 ++ []))))))))) = _; rw [eh0_, eh1_, eh2_, eh3_, eh4_, eh5_, eh6_, eh7_, eh8_]; rfl)
        rw [show Go.Q.fr 26 (puts vs26 _ 0 _) = Go.Q.fr 26 (base [va, vb, undef, undef, u1_4, (.int .i64 (k : Int)), va, (.int .i64 ((a.length : Nat) : Int)), vb, (.int .i64 ((b.length : Nat) : Int)), (.bool (decide (((a.length : Nat) : Int) ≠ ((b.length : Nat) : Int)))), (.int .i64 (k : Int)), va, (.int .i64 ((a.length : Nat) : Int)), (.bool (decide ((k : Int) < ((a.length : Nat) : Int)))), u1_15, u1_16, va, (.int .i64 (k : Int)), (.pointer (some ⟨b16, o17, none⟩)), (.int .i64 x19), vb, (.int .i64 (k : Int)), (.pointer (some ⟨b21, o22, none⟩)), (.int .i64 x24), (.bool (decide (x19 ≠ x24)))]) from fr_lit (by show [va, vb, undef, undef, u1_4, (.int .i64 (k : Int)), va, (.int .i64 ((a.length : Nat) : Int)), vb, (.int .i64 ((b.length : Nat) : Int)), (.bool (decide (((a.length : Nat) : Int) ≠ ((b.length : Nat) : Int)))), (.int .i64 (k : Int)), va, (.int .i64 ((a.length : Nat) : Int)), (.bool (decide ((k : Int) < ((a.length : Nat) : Int)))), u1_15, u1_16, vs26 0, vs26 1, vs26 2, vs26 3, vs26 4, vs26 5, vs26 6, vs26 7, vs26 8] = _; rw [e0_, e1_, e2_, e3_, e4_, e5_, e6_, e7_, e8_])]
        refine t_norm (hK15 _ _ ?_)
        refine c_cond rfl (fun h32 => ?_) (fun h32 => ?_)
        · -- x19 ≠ x24
          refine wp_seq_k fun K33 hK33 => ?_
          refine c_region ?_
          refine s_op (o_assign (v := (.bool false)) rfl ?_)
          refine s_nil ?_
          refine t_norm (hK33 _ _ ?_)
          refine wp_ret ?_
          refine b_ret (t_ret (t_ret (b_ret (t_ret (c_ret1 Try.results38 (v := (.bool false)) rfl ?_)))))
          have e : a ≠ b := fun e => by
            subst e
            have e1 := hx20.symm.trans hx25
            cases e1
            omega
          exact ⟨by rw [decide_eq_false e], hH31⟩
        · -- not: x19 ≠ x24
          refine wp_skip ?_
          refine b_norm ?_
          refine t_norm (hK14 _ _ ?_)
          refine c_region ?_
          refine s_op (o_move (v := (.int .i64 (k : Int))) rfl ?_)
          refine s_op (o_add (a := (k : Int)) (b := 1) rfl rfl (w64 (by omega) (by omega)) ?_)
          refine s_op (o_assign (v := (.int .i64 ((k : Int) + 1))) rfl ?_)
          refine s_nil ?_
          refine t_norm ⟨a.length - (k + 1), base [va, vb, undef, undef, u1_4, (.int .i64 ((k : Int) + 1)), va, (.int .i64 ((a.length : Nat) : Int)), vb, (.int .i64 ((b.length : Nat) : Int)), (.bool (decide (((a.length : Nat) : Int) ≠ ((b.length : Nat) : Int)))), (.int .i64 (k : Int)), va, (.int .i64 ((a.length : Nat) : Int)), (.bool (decide ((k : Int) < ((a.length : Nat) : Int)))), (.int .i64 (k : Int)), (.int .i64 ((k : Int) + 1)), va, (.int .i64 (k : Int)), (.pointer (some ⟨b16, o17, none⟩)), (.int .i64 x19), vb, (.int .i64 (k : Int)), (.pointer (some ⟨b21, o22, none⟩)), (.int .i64 x24), (.bool (decide (x19 ≠ x24)))], fr_lit (by rfl), ?_, ?_⟩
          · omega
          · exact ⟨(k + 1), _, _, _, _, _, _, _, _, _, _, _, _, _, _, _, _, rfl, rfl, hH31, (by omega), (same_step he (by simpa using hx20) (by simpa using hx25) (by omega))⟩
    · -- not: (k : Int) < ((a.length : Nat) : Int)
      refine wp_exit ?_
      refine t_exit (t_exit (x_in (?_)))
      refine t_norm (hK6 _ _ ?_)
      refine wp_seq_k fun K34 hK34 => ?_
      refine c_region ?_
      refine s_op (o_assign (v := (.bool true)) rfl ?_)
      refine s_nil ?_
      refine t_norm (hK34 _ _ ?_)
      refine wp_ret ?_
      refine c_ret1 Try.results38 (v := (.bool true)) rfl ?_
      have e : a = b := List.ext_getElem? fun j => by
        rcases Nat.lt_or_ge j k with g | g
        · exact he j g
        · rw [List.getElem?_eq_none (by omega), List.getElem?_eq_none (by omega)]
      exact ⟨by rw [decide_eq_true e], hH10⟩
end Go.Q
