/-
  Parts of a walk: what functions of the program compute, each told by a theorem.
-/
import Derived.Test.YtagicdbeacmffaaQS6
import Derived.Test.YtagicdbeacmffaaQS4
import Derived.Test.YtagicdbeacmffaaQSets
set_option linter.unusedVariables false
set_option linter.unusedSimpArgs false
namespace Go.Q
open Go.Proofs
set_option linter.unusedVariables false
set_option maxRecDepth 100000
attribute [local irreducible] wpList OK Code.wp
theorem del_own {E w : World} {R hs : List Hp} {v : Value} {l : List Int} (i : Nat) (hH : Has E w [hs, R]) (ho : Own 3 1 v l.length (l.map iV) hs) (hi : i < l.length) (hl : l.length ≤ 1000000) :
    Calls Try.prog 51 #[v, (.int .i64 (i : Int)), (.int .i64 ((i : Int) + 1))] w fun e w' => ∃ v' hs', e = .returned v' ∧ Own 3 1 v' (l.take i ++ l.drop (i + 1)).length ((l.take i ++ l.drop (i + 1)).map iV) hs' ∧ Has E w' [hs', R] := by
  obtain ⟨e1, ⟨rfl, h0, rfl⟩ | ⟨b, cap, cur, rfl, rfl, hnc, hcm, hsz, ht⟩⟩ := ho
  · omega
  · have hcm' : cap ≤ 9223372036854775807 := by simpa [maxLen] using hcm
    have e2 : cur.toList.take (i * 1) = (l.take i).map iV := by
      rw [List.map_take, ← ht, List.take_take]; congr 1; omega
    have e3 : (cur.toList.take (l.length * 1)).drop ((i + 1) * 1) = (l.drop (i + 1)).map iV := by rw [ht, List.map_drop, Nat.mul_one]
    have h1 : ∀ u ∈ cur.toList.take (l.length * 1), u.oneCell' = true := by rw [ht]; exact one_iV l
    refine Calls.mono (del1 b l.length cap i cur hH hi hnc hcm' hsz h1) ?_
    rintro e w' ⟨v', hs', rfl, hO, hX⟩
    refine ⟨v', hs', rfl, ?_, hX⟩
    rw [e2, e3] at hO
    have e4 : (l.take i ++ l.drop (i + 1)).length = l.length - 1 := by simp only [List.length_append, List.length_take, List.length_drop]; omega
    rw [e4, List.map_append]; exact hO
set_option maxHeartbeats 4000000 in
theorem refhas_c {E w : World} {R : List Hp} (hH : Has E w [R]) {v : Value} {l : List Int} (hv : Ints R v l) (n : Int) :
    Calls Try.prog 36 #[v, (.int .i64 n)] w fun e w' => e = .returned (.bool (decide (n ∈ l))) ∧ Has E w' [R] := by
  have hn_ := hv.le
  refine c_enter (args := [v, (.int .i64 n)]) Try.func36 rfl Try.ntmps36 (by simp) ?_
  refine wp_seq_k fun K1 hK1 => ?_
  refine c_region ?_
  refine s_op (o_assign (v := (.bool false)) rfl ?_)
  refine s_nil ?_
  refine t_norm (hK1 _ _ ?_)
  refine wp_seq_k fun K2 hK2 => ?_
  refine wp_seq_k fun K3 hK3 => ?_
  refine c_region ?_
  refine s_op (o_assign (v := (.int .i64 0)) rfl ?_)
  refine s_nil ?_
  refine t_norm (hK3 _ _ ?_)
  refine wp_block ?_
  let I5 : Nat → (Nat → Value) → World → Prop := fun n__ r__ w__ => ∃ (k : Nat), n__ = l.length - k ∧ Has E w__ [R] ∧ (k ≤ l.length) ∧ (n ∉ l.take k) ∧ r__ 0 = v ∧ r__ 1 = (.int .i64 n) ∧ r__ 5 = (.int .i64 (k : Int))
  refine c_loop I5 _ ⟨0, rfl, hH, Nat.zero_le _, (by simp), rfl, rfl, rfl⟩ ?_
  rintro n_ r8 w6 ⟨k, rfl, hH7, hk, hn, e4_0, e4_1, e4_5⟩
  refine wp_seq_k fun K9 hK9 => ?_
  refine wp_seq_k fun K10 hK10 => ?_
  refine c_region ?_
  refine s_op (o_move (v := (.int .i64 (k : Int))) e4_5 ?_)
  refine s_op (o_move (v := v) e4_0 ?_)
  refine s_op (o_lenS Try.underlying28 rfl hv ?_)
  refine s_op (o_lss (a := (k : Int)) (b := ((l.length : Nat) : Int)) rfl rfl ?_)
  refine s_nil ?_
  refine t_norm (hK10 _ _ ?_)
  refine c_cond rfl (fun h11 => ?_) (fun h11 => ?_)
  · -- (k : Int) < ((l.length : Nat) : Int)
    refine wp_skip ?_
    refine t_norm (hK9 _ _ ?_)
    refine wp_seq_k fun K12 hK12 => ?_
    refine wp_block ?_
    refine wp_seq_k fun K13 hK13 => ?_
    refine c_region ?_
    refine s_op (o_move (v := v) e4_0 ?_)
    refine s_op (o_move (v := (.int .i64 (k : Int))) e4_5 ?_)
    obtain ⟨x17, hx18⟩ : ∃ x_, l[((k : Int)).toNat]? = some x_ := get_some (by omega)
    refine s_op (o_index1 Try.underlying28 ti3 rfl hv rfl (by omega) hx18 fun b14 o15 hc16 => ?_)
    refine s_op (o_load1 (v := (.int .i64 x17)) Try.underlying3 rfl rfl hH7 (seg_sub 0 rfl) hc16 ?_)
    refine s_op (o_move (v := (.int .i64 n)) e4_1 ?_)
    refine s_op (o_eql (a := x17) (b := n) rfl rfl ?_)
    refine s_nil ?_
    refine t_norm (hK13 _ _ ?_)
    refine c_cond rfl (fun h19 => ?_) (fun h19 => ?_)
    · -- x17 = n
      refine wp_seq_k fun K20 hK20 => ?_
      refine c_region ?_
      refine s_op (o_assign (v := (.bool true)) rfl ?_)
      refine s_nil ?_
      refine t_norm (hK20 _ _ ?_)
      refine wp_ret ?_
      refine b_ret (t_ret (t_ret (b_ret (t_ret (c_ret1 Try.results36  (v := (.bool true)) rfl ?_)))))
      exact ⟨by rw [decide_eq_true (h19 ▸ List.mem_of_getElem? hx18)], hH7⟩
    · -- not: x17 = n
      refine wp_skip ?_
      refine b_norm ?_
      refine t_norm (hK12 _ _ ?_)
      refine c_region ?_
      refine s_op (o_move (v := (.int .i64 (k : Int))) e4_5 ?_)
      refine s_op (o_add (a := (k : Int)) (b := 1) rfl rfl (w64 (by omega) (by omega)) ?_)
      refine s_op (o_assign (v := (.int .i64 ((k : Int) + 1))) rfl ?_)
      refine s_nil ?_
      refine t_norm ⟨l.length - (k + 1), _, rfl, ?_, ?_⟩
      · omega
      · exact ⟨(k + 1), rfl, hH7, (by omega), (by rw [take_succ_of (show l[k]? = some _ from hx18)]; exact fun g => (List.mem_append.1 g).elim hn (fun g => h19 (List.mem_singleton.1 g).symm)), e4_0, e4_1, rfl⟩
  · -- not: (k : Int) < ((l.length : Nat) : Int)
    refine wp_exit ?_
    refine t_exit (t_exit (x_in (?_)))
    refine t_norm (hK2 _ _ ?_)
    refine wp_seq_k fun K21 hK21 => ?_
    refine c_region ?_
    refine s_op (o_assign (v := (.bool false)) rfl ?_)
    refine s_nil ?_
    refine t_norm (hK21 _ _ ?_)
    refine wp_ret ?_
    refine c_ret1 Try.results36  (v := (.bool false)) rfl ?_
    have e : k = l.length := by omega
    rw [e, List.take_of_length_le (Nat.le_refl _)] at hn
    exact ⟨by rw [decide_eq_false hn], hH7⟩
set_option maxHeartbeats 4000000 in
theorem len_c {E w : World} {R hs : List Hp} {v : Value} {now : List Int} {sb : Nat} (hH : Has E w [hs, [Hp.one sb (.cells #[v] 81 (0, 0))], R]) (ho : Own 3 1 v now.length (now.map iV) hs) (hso : now.Pairwise (· < ·)) :
    Calls Try.prog 40 #[(.pointer (some ⟨sb, 0, none⟩))] w fun e w' => e = .returned (.int .i64 (now.length : Int)) ∧ Has E w' [hs, [Hp.one sb (.cells #[v] 81 (0, 0))], R] := by
  refine c_enter (args := [(.pointer (some ⟨sb, 0, none⟩))]) Try.func40 rfl Try.ntmps40 (by simp) ?_
  refine wp_seq_k fun K1 hK1 => ?_
  refine c_region ?_
  refine s_op (o_assign (v := (.int .i64 0)) rfl ?_)
  refine s_nil ?_
  refine t_norm (hK1 _ _ ?_)
  refine wp_seq_k fun K2 hK2 => ?_
  refine wp_seq_k fun K3 hK3 => ?_
  refine c_region ?_
  refine s_op (o_move (v := (.pointer (some ⟨sb, 0, none⟩))) rfl ?_)
  refine s_op (o_pnil (p := some _) Try.underlying57 rfl rfl ?_)
  refine s_nil ?_
  refine t_norm (hK3 _ _ ?_)
  refine c_false rfl rfl ?_
  refine wp_skip ?_
  refine t_norm (hK2 _ _ ?_)
  refine wp_seq_k fun K4 hK4 => ?_
  refine c_region ?_
  refine s_op (o_move (v := (.pointer (some ⟨sb, 0, none⟩))) rfl ?_)
  refine s_op (o_nilCheck rfl ?_)
  refine s_op (o_fieldAddr (k := 0) (fun _ => by kernel_rfl) rfl ?_)
  refine s_op (o_load1 (v := v) Try.underlying28 rfl rfl hH (seg_sub 1 rfl) (CellsAt.one rfl) ?_)
  refine s_op (o_lenS Try.underlying28 rfl ho.sl ?_)
  refine s_op (o_assign (v := (.int .i64 ((now.length : Nat) : Int))) rfl ?_)
  refine s_nil ?_
  refine t_norm (hK4 _ _ ?_)
  refine wp_ret ?_
  refine c_ret1 Try.results40  (v := (.int .i64 ((now.length : Nat) : Int))) rfl ?_
  exact ⟨rfl, hH⟩
set_option maxHeartbeats 4000000 in
theorem ends_c {E w : World} {R hs : List Hp} {v : Value} {now : List Int} {sb : Nat} (hH : Has E w [hs, [Hp.one sb (.cells #[v] 81 (0, 0))], R]) (ho : Own 3 1 v now.length (now.map iV) hs) (hso : now.Pairwise (· < ·)) (hl : now.length ≤ 1000000) :
    Calls Try.prog 37 #[(.pointer (some ⟨sb, 0, none⟩))] w fun e w' => e = .returned (.tuple #[.int .i64 (firstS now), .int .i64 (lastS now), .bool (decide (0 < now.length))]) ∧ Has E w' [hs, [Hp.one sb (.cells #[v] 81 (0, 0))], R] := by
  refine c_enter (args := [(.pointer (some ⟨sb, 0, none⟩))]) Try.func37 rfl Try.ntmps37 (by simp) ?_
  refine wp_seq_k fun K1 hK1 => ?_
  refine c_region ?_
  refine s_op (o_assign (v := (.int .i64 0)) rfl ?_)
  refine s_op (o_assign (v := (.int .i64 0)) rfl ?_)
  refine s_op (o_assign (v := (.bool false)) rfl ?_)
  refine s_nil ?_
  refine t_norm (hK1 _ _ ?_)
  refine wp_seq_k fun K2 hK2 => ?_
  refine c_region ?_
  refine s_op (o_move (v := (.pointer (some ⟨sb, 0, none⟩))) rfl ?_)
  refine s_op (o_callf (vs := #[(.pointer (some ⟨sb, 0, none⟩))]) ca40 rfl (args1 rfl) (len_c ((hH.front 1 rfl).front 1 rfl).all2 ho hso) ?_)
  rintro _ w5 ⟨rfl, hX3⟩
  refine ⟨_, rfl, ?_⟩
  have hH4 : Has E w5 [hs, [Hp.one sb (.cells #[v] 81 (0, 0))], R] := hX3.of_all2
  refine s_op (o_assign (v := (.int .i64 (now.length : Int))) rfl ?_)
  refine s_nil ?_
  refine t_norm (hK2 _ _ ?_)
  refine wp_seq_k fun K6 hK6 => ?_
  refine wp_seq_k fun K7 hK7 => ?_
  refine c_region ?_
  refine s_op (o_move (v := (.int .i64 (now.length : Int))) rfl ?_)
  refine s_op (o_eql (a := (now.length : Int)) (b := 0) rfl rfl ?_)
  refine s_nil ?_
  refine t_norm (hK7 _ _ ?_)
  refine c_cond rfl (fun h8 => ?_) (fun h8 => ?_)
  · -- (now.length : Int) = 0
    refine wp_seq_k fun K9 hK9 => ?_
    refine c_region ?_
    refine s_op (o_assign (v := (.int .i64 0)) rfl ?_)
    refine s_op (o_assign (v := (.int .i64 0)) rfl ?_)
    refine s_op (o_assign (v := (.bool false)) rfl ?_)
    refine s_nil ?_
    refine t_norm (hK9 _ _ ?_)
    refine wp_ret ?_
    refine t_ret (c_ret3 Try.results37  (v := (.int .i64 0)) rfl (x := (.int .i64 0)) rfl (y := (.bool false)) rfl ?_)
    have hz := ends_nil (l := now) (by omega)
    exact ⟨by rw [hz.1, hz.2, decide_eq_false (by omega)], hH4⟩
  · -- not: (now.length : Int) = 0
    refine wp_skip ?_
    refine t_norm (hK6 _ _ ?_)
    refine wp_seq_k fun K10 hK10 => ?_
    obtain ⟨x14, hx15⟩ : ∃ x_, now[((0 : Int)).toNat]? = some x_ := get_some (by omega)
    obtain ⟨x19, hx20⟩ : ∃ x_, now[((now.length : Int) - 1).toNat]? = some x_ := get_some (by omega)
    refine c_flow [hs, [Hp.one sb (.cells #[v] 81 (0, 0))], R] (fun i_ => match i_ with | _ => []) (fun i_ v_ h_ => match i_ with | 0 => v_ = (.pointer (some ⟨sb, 0, none⟩)) ∧ h_ = [] | 1 => v_ = (.pointer (some ⟨sb, 0, none⟩)) ∧ h_ = [] | 2 => v_ = (.pointer (some ⟨sb, 0, none⟩)) ∧ h_ = [] | 3 => v_ = v ∧ h_ = [] | 4 => ∃ (b11 : Nat) (o12 : Nat), v_ = (.pointer (some ⟨b11, o12, none⟩)) ∧ h_ = [] ∧ (CellsAt hs b11 o12 [(.int .i64 x14)]) | 5 => v_ = (.int .i64 x14) ∧ h_ = [] | 6 => v_ = (.pointer (some ⟨sb, 0, none⟩)) ∧ h_ = [] | 7 => v_ = (.pointer (some ⟨sb, 0, none⟩)) ∧ h_ = [] | 8 => v_ = (.pointer (some ⟨sb, 0, none⟩)) ∧ h_ = [] | 9 => v_ = v ∧ h_ = [] | 10 => v_ = (.int .i64 (now.length : Int)) ∧ h_ = [] | 11 => v_ = (.int .i64 ((now.length : Int) - 1)) ∧ h_ = [] | 12 => ∃ (b16 : Nat) (o17 : Nat), v_ = (.pointer (some ⟨b16, o17, none⟩)) ∧ h_ = [] ∧ (CellsAt hs b16 o17 [(.int .i64 x19)]) | 13 => v_ = (.int .i64 x19) ∧ h_ = [] | 14 => v_ = (.int .i64 x14) ∧ h_ = [] | 15 => v_ = (.int .i64 x19) ∧ h_ = [] | 16 => v_ = (.bool true) ∧ h_ = [] | _ => True) mixed (by kernel_rfl) (flow_has (cs := []) hH4 rfl) ?_ ?_
    · intro i_ o_ ho_ r' w' G hs_ ht
      match i_, ho_ with
      | 0, ho_ =>
        obtain rfl := Option.some.inj ho_
        have e0 : r' 0 = (.pointer (some ⟨sb, 0, none⟩)) := ht.was 0 (by kernel_rfl)
        have hG := ht.has.drop
        refine o_move (v := (.pointer (some ⟨sb, 0, none⟩))) e0 ?_
        exact ⟨_, ⟨rfl, rfl⟩, hG⟩
      | 1, ho_ =>
        obtain rfl := Option.some.inj ho_
        obtain ⟨e10, eh0⟩ := (ht.done 0 _ rfl rfl).1
        have hG := ht.has.drop
        refine o_nilCheck e10 ?_
        exact ⟨_, ⟨rfl, rfl⟩, hG⟩
      | 2, ho_ =>
        obtain rfl := Option.some.inj ho_
        obtain ⟨e11, eh1⟩ := (ht.done 1 _ rfl rfl).1
        have hG := ht.has.drop
        refine o_fieldAddr (k := 0) (fun _ => by kernel_rfl) e11 ?_
        exact ⟨_, ⟨rfl, rfl⟩, hG⟩
      | 3, ho_ =>
        obtain rfl := Option.some.inj ho_
        obtain ⟨e12, eh2⟩ := (ht.done 2 _ rfl rfl).1
        have hG := ht.has.drop
        refine o_load1 (v := v) Try.underlying28 rfl e12 hG (ht.fr [Hp.one sb (.cells #[v] 81 (0, 0))] (by simp)) (CellsAt.one rfl) ?_
        exact ⟨_, ⟨rfl, rfl⟩, hG⟩
      | 4, ho_ =>
        obtain rfl := Option.some.inj ho_
        obtain ⟨e13, eh3⟩ := (ht.done 3 _ rfl rfl).1
        have hG := ht.has.drop
        refine o_index1 Try.underlying28 ti3 e13 ho.sl rfl (by omega) hx15 fun b11 o12 hc13 => ?_
        exact ⟨_, ⟨b11, o12, rfl, rfl, hc13⟩, hG⟩
      | 5, ho_ =>
        obtain rfl := Option.some.inj ho_
        obtain ⟨b11, o12, e14, eh4, hc13⟩ := (ht.done 4 _ rfl rfl).1
        have hG := ht.has.drop
        refine o_load1 (v := (.int .i64 x14)) Try.underlying3 rfl e14 hG (ht.fr hs (by simp)) hc13 ?_
        exact ⟨_, ⟨rfl, rfl⟩, hG⟩
      | 6, ho_ =>
        obtain rfl := Option.some.inj ho_
        have e0 : r' 0 = (.pointer (some ⟨sb, 0, none⟩)) := ht.was 0 (by kernel_rfl)
        have hG := ht.has.drop
        refine o_move (v := (.pointer (some ⟨sb, 0, none⟩))) e0 ?_
        exact ⟨_, ⟨rfl, rfl⟩, hG⟩
      | 7, ho_ =>
        obtain rfl := Option.some.inj ho_
        obtain ⟨e16, eh6⟩ := (ht.done 6 _ rfl rfl).1
        have hG := ht.has.drop
        refine o_nilCheck e16 ?_
        exact ⟨_, ⟨rfl, rfl⟩, hG⟩
      | 8, ho_ =>
        obtain rfl := Option.some.inj ho_
        obtain ⟨e17, eh7⟩ := (ht.done 7 _ rfl rfl).1
        have hG := ht.has.drop
        refine o_fieldAddr (k := 0) (fun _ => by kernel_rfl) e17 ?_
        exact ⟨_, ⟨rfl, rfl⟩, hG⟩
      | 9, ho_ =>
        obtain rfl := Option.some.inj ho_
        obtain ⟨e18, eh8⟩ := (ht.done 8 _ rfl rfl).1
        have hG := ht.has.drop
        refine o_load1 (v := v) Try.underlying28 rfl e18 hG (ht.fr [Hp.one sb (.cells #[v] 81 (0, 0))] (by simp)) (CellsAt.one rfl) ?_
        exact ⟨_, ⟨rfl, rfl⟩, hG⟩
      | 10, ho_ =>
        obtain rfl := Option.some.inj ho_
        have e5 : r' 5 = (.int .i64 (now.length : Int)) := ht.was 5 (by kernel_rfl)
        have hG := ht.has.drop
        refine o_move (v := (.int .i64 (now.length : Int))) e5 ?_
        exact ⟨_, ⟨rfl, rfl⟩, hG⟩
      | 11, ho_ =>
        obtain rfl := Option.some.inj ho_
        obtain ⟨e20, eh10⟩ := (ht.done 10 _ rfl rfl).1
        have hG := ht.has.drop
        refine o_sub (a := (now.length : Int)) (b := 1) e20 rfl (w64 (by omega) (by omega)) ?_
        exact ⟨_, ⟨rfl, rfl⟩, hG⟩
      | 12, ho_ =>
        obtain rfl := Option.some.inj ho_
        obtain ⟨e19, eh9⟩ := (ht.done 9 _ rfl rfl).1
        obtain ⟨e21, eh11⟩ := (ht.done 11 _ rfl rfl).1
        have hG := ht.has.drop
        refine o_index1 Try.underlying28 ti3 e19 ho.sl e21 (by omega) hx20 fun b16 o17 hc18 => ?_
        exact ⟨_, ⟨b16, o17, rfl, rfl, hc18⟩, hG⟩
      | 13, ho_ =>
        obtain rfl := Option.some.inj ho_
        obtain ⟨b16, o17, e22, eh12, hc18⟩ := (ht.done 12 _ rfl rfl).1
        have hG := ht.has.drop
        refine o_load1 (v := (.int .i64 x19)) Try.underlying3 rfl e22 hG (ht.fr hs (by simp)) hc18 ?_
        exact ⟨_, ⟨rfl, rfl⟩, hG⟩
      | 14, ho_ =>
        obtain rfl := Option.some.inj ho_
        obtain ⟨b11, o12, e14, eh4, hc13⟩ := (ht.done 4 _ rfl rfl).1
        obtain ⟨e15, eh5⟩ := (ht.done 5 _ rfl rfl).1
        have hG := ht.has.drop
        refine o_assign (v := (.int .i64 x14)) e15 ?_
        exact ⟨_, ⟨rfl, rfl⟩, hG⟩
      | 15, ho_ =>
        obtain rfl := Option.some.inj ho_
        obtain ⟨b11, o12, e14, eh4, hc13⟩ := (ht.done 4 _ rfl rfl).1
        obtain ⟨b16, o17, e22, eh12, hc18⟩ := (ht.done 12 _ rfl rfl).1
        obtain ⟨e23, eh13⟩ := (ht.done 13 _ rfl rfl).1
        have hG := ht.has.drop
        refine o_assign (v := (.int .i64 x19)) e23 ?_
        exact ⟨_, ⟨rfl, rfl⟩, hG⟩
      | 16, ho_ =>
        obtain rfl := Option.some.inj ho_
        obtain ⟨b11, o12, e14, eh4, hc13⟩ := (ht.done 4 _ rfl rfl).1
        obtain ⟨b16, o17, e22, eh12, hc18⟩ := (ht.done 12 _ rfl rfl).1
        have hG := ht.has.drop
        refine o_assign (v := (.bool true)) rfl ?_
        exact ⟨_, ⟨rfl, rfl⟩, hG⟩
      | i_ + 17, ho_ => exact absurd ho_ (by simp)
    · intro vs21 hs22 w23 hT24 hH25
      obtain ⟨e0_, eh0_⟩ := hT24 0 _ rfl
      obtain ⟨e1_, eh1_⟩ := hT24 1 _ rfl
      obtain ⟨e2_, eh2_⟩ := hT24 2 _ rfl
      obtain ⟨e3_, eh3_⟩ := hT24 3 _ rfl
      obtain ⟨b11, o12, e4_, eh4_, hc13⟩ := hT24 4 _ rfl
      obtain ⟨e5_, eh5_⟩ := hT24 5 _ rfl
      obtain ⟨e6_, eh6_⟩ := hT24 6 _ rfl
      obtain ⟨e7_, eh7_⟩ := hT24 7 _ rfl
      obtain ⟨e8_, eh8_⟩ := hT24 8 _ rfl
      obtain ⟨e9_, eh9_⟩ := hT24 9 _ rfl
      obtain ⟨e10_, eh10_⟩ := hT24 10 _ rfl
      obtain ⟨e11_, eh11_⟩ := hT24 11 _ rfl
      obtain ⟨b16, o17, e12_, eh12_, hc18⟩ := hT24 12 _ rfl
      obtain ⟨e13_, eh13_⟩ := hT24 13 _ rfl
      obtain ⟨e14_, eh14_⟩ := hT24 14 _ rfl
      obtain ⟨e15_, eh15_⟩ := hT24 15 _ rfl
      obtain ⟨e16_, eh16_⟩ := hT24 16 _ rfl
      have hH26 : Has E w23 ([hs, [Hp.one sb (.cells #[v] 81 (0, 0))], R] ++ []) := flow_back (cs := []) hH25 (by show (hs22 0 ++ (hs22 1 ++ (hs22 2 ++ (hs22 3 ++ (hs22 4 ++ (hs22 5 ++ (hs22 6 ++ (hs22 7 ++ (hs22 8 ++ (hs22 9 ++ (hs22 10 ++ (hs22 11 ++ (hs22 12 ++ (hs22 13 ++ (hs22 14 ++ (hs22 15 ++ (hs22 16 ++ []))))))))))))))))) = _; rw [eh0_, eh1_, eh2_, eh3_, eh4_, eh5_, eh6_, eh7_, eh8_, eh9_, eh10_, eh11_, eh12_, eh13_, eh14_, eh15_, eh16_]; rfl)
      generalize hr28 : puts vs21 _ 0 _ = r27
      have e29_0 : r27 0 = (.pointer (some ⟨sb, 0, none⟩)) := by rw [← hr28]; exact rfl
      have e29_2 : r27 2 = (.int .i64 x14) := by rw [← hr28]; exact e14_
      have e29_3 : r27 3 = (.int .i64 x19) := by rw [← hr28]; exact e15_
      have e29_4 : r27 4 = (.bool true) := by rw [← hr28]; exact e16_
      have e29_5 : r27 5 = (.int .i64 (now.length : Int)) := by rw [← hr28]; exact rfl
      have e29_9 : r27 9 = (.bool (decide ((now.length : Int) = 0))) := by rw [← hr28]; exact rfl
      refine t_norm (hK10 _ _ ?_)
      refine wp_ret ?_
      refine c_ret3 Try.results37  (v := (.int .i64 x14)) e29_2 (x := (.int .i64 x19)) e29_3 (y := (.bool true)) e29_4 ?_
      exact ⟨by rw [firstS_of (show now[0]? = some _ from hx15), lastS_of hx20 (by omega), decide_eq_true (by omega)], hH26⟩
set_option maxHeartbeats 4000000 in
theorem from_c {E w : World} {R hs : List Hp} {v : Value} {now : List Int} {sb : Nat} (hH : Has E w [hs, [Hp.one sb (.cells #[v] 81 (0, 0))], R]) (ho : Own 3 1 v now.length (now.map iV) hs) (hso : now.Pairwise (· < ·)) (hl : now.length ≤ 1000000) (x : Int) :
    Calls Try.prog 42 #[(.pointer (some ⟨sb, 0, none⟩)), (.int .i64 x)] w fun e w' => ∃ v' hs', e = .returned v' ∧ Ints hs' v' (now.filter (fun a => decide (x ≤ a))) ∧ Has E w' [hs', hs, [Hp.one sb (.cells #[v] 81 (0, 0))], R] := by
  refine c_enter (args := [(.pointer (some ⟨sb, 0, none⟩)), (.int .i64 x)]) Try.func42 rfl Try.ntmps42 (by simp) ?_
  refine wp_seq_k fun K1 hK1 => ?_
  refine c_region ?_
  refine s_op (o_assign (v := (.slice none 0 0)) rfl ?_)
  refine s_nil ?_
  refine t_norm (hK1 _ _ ?_)
  refine wp_seq_k fun K2 hK2 => ?_
  refine wp_seq_k fun K3 hK3 => ?_
  refine c_region ?_
  refine s_op (o_move (v := (.pointer (some ⟨sb, 0, none⟩))) rfl ?_)
  refine s_op (o_pnil (p := some _) Try.underlying57 rfl rfl ?_)
  refine s_nil ?_
  refine t_norm (hK3 _ _ ?_)
  refine c_false rfl rfl ?_
  refine wp_skip ?_
  refine t_norm (hK2 _ _ ?_)
  refine wp_seq_k fun K4 hK4 => ?_
  refine c_region ?_
  refine s_op (o_move (v := (.pointer (some ⟨sb, 0, none⟩))) rfl ?_)
  refine s_op (o_nilCheck rfl ?_)
  refine s_op (o_fieldAddr (k := 0) (fun _ => by kernel_rfl) rfl ?_)
  refine s_op (o_load1 (v := v) Try.underlying28 rfl rfl hH (seg_sub 1 rfl) (CellsAt.one rfl) ?_)
  refine s_op (o_move (v := (.int .i64 x)) rfl ?_)
  refine s_op (o_callf (vs := #[v, (.int .i64 x)]) ca49 rfl (args2 rfl rfl) (bs_c hH.all (l := now) (ho.sl.mono (seg_sub 0 rfl)) hso hl x) ?_)
  rintro _ w11 ⟨p5, rfl, hp6, hlo7, hhi8, hX9⟩
  refine ⟨_, rfl, ?_⟩
  have hH10 : Has E w11 [hs, [Hp.one sb (.cells #[v] 81 (0, 0))], R] := hX9.of_all
  refine s_op (o_move (v := (.tuple #[(.int .i64 (p5 : Int)), (.bool (decide (x ∈ now)))])) rfl ?_)
  refine s_op (o_extract (v := (.int .i64 (p5 : Int))) rfl rfl ?_)
  refine s_op (o_extract (v := (.bool (decide (x ∈ now)))) rfl rfl ?_)
  refine s_op (o_assign (v := (.int .i64 (p5 : Int))) rfl ?_)
  refine s_op (o_assign (v := (.bool (decide (x ∈ now)))) rfl ?_)
  refine s_nil ?_
  refine t_norm (hK4 _ _ ?_)
  refine wp_seq_k fun K12 hK12 => ?_
  refine c_region ?_
  refine s_op (o_move (v := (.pointer (some ⟨sb, 0, none⟩))) rfl ?_)
  refine s_op (o_nilCheck rfl ?_)
  refine s_op (o_fieldAddr (k := 0) (fun _ => by kernel_rfl) rfl ?_)
  refine s_op (o_load1 (v := v) Try.underlying28 rfl rfl hH10 (seg_sub 1 rfl) (CellsAt.one rfl) ?_)
  refine s_op (o_move (v := (.int .i64 (p5 : Int))) rfl ?_)
  refine s_op (o_sl_l Try.underlying28 ti3 rfl ho.sl rfl (by omega) (by omega) fun v13 hv14 => ?_)
  have hv15 := sl_dropm hv14
  refine s_op (o_callf (vs := #[v13]) ca48 rfl (args1 rfl) (clone_v hH10.all (l := now.drop ((p5 : Int)).toNat) (hv15.mono (seg_sub 0 rfl)) (by first | omega | (simp only [List.length_drop]; omega))) ?_)
  rintro _ w22 ⟨v16, s17, rfl, ho18, hv19, hX20⟩
  refine ⟨_, rfl, ?_⟩
  have hH21 : Has E w22 [s17, hs, [Hp.one sb (.cells #[v] 81 (0, 0))], R] := hX20.of_all1
  refine s_op (o_assign (v := v16) rfl ?_)
  refine s_nil ?_
  refine t_norm (hK12 _ _ ?_)
  refine wp_ret ?_
  refine c_ret1 Try.results42  (v := v16) rfl ?_
  exact ⟨_, _, rfl, by rw [← from_eq hlo7 hhi8]; exact hv19, hH21⟩
set_option maxHeartbeats 4000000 in
theorem has_c {E w : World} {R hs : List Hp} {v : Value} {now : List Int} {sb : Nat} (hH : Has E w [hs, [Hp.one sb (.cells #[v] 81 (0, 0))], R]) (ho : Own 3 1 v now.length (now.map iV) hs) (hso : now.Pairwise (· < ·)) (hl : now.length ≤ 1000000) {vl : Value} {l : List Int} (hv : Ints R vl l) :
    Calls Try.prog 41 #[(.pointer (some ⟨sb, 0, none⟩)), vl] w fun e w' => e = .returned (.bool (decide (∀ a ∈ l, a ∈ now))) ∧ Has E w' [hs, [Hp.one sb (.cells #[v] 81 (0, 0))], R] := by
  have hn_ := hv.le
  refine c_enter (args := [(.pointer (some ⟨sb, 0, none⟩)), vl]) Try.func41 rfl Try.ntmps41 (by simp) ?_
  refine wp_seq_k fun K1 hK1 => ?_
  refine c_region ?_
  refine s_op (o_assign (v := (.bool false)) rfl ?_)
  refine s_nil ?_
  refine t_norm (hK1 _ _ ?_)
  refine wp_seq_k fun K2 hK2 => ?_
  refine wp_seq_k fun K3 hK3 => ?_
  refine c_region ?_
  refine s_op (o_move (v := vl) rfl ?_)
  refine s_op (o_lenS Try.underlying28 rfl hv ?_)
  refine s_op (o_move (v := (.int .i64 0)) rfl ?_)
  refine s_nil ?_
  refine t_norm (hK3 _ _ ?_)
  refine wp_block ?_
  let I5 : Nat → (Nat → Value) → World → Prop := fun n__ r__ w__ => ∃ (k : Nat), n__ = l.length - k ∧ Has E w__ [hs, [Hp.one sb (.cells #[v] 81 (0, 0))], R] ∧ (k ≤ l.length) ∧ (∀ a ∈ l.take k, a ∈ now) ∧ r__ 0 = (.pointer (some ⟨sb, 0, none⟩)) ∧ r__ 1 = vl ∧ r__ 9 = vl ∧ r__ 10 = (.int .i64 ((l.length : Nat) : Int)) ∧ r__ 11 = (.int .i64 (k : Int))
  refine c_loop I5 _ ⟨0, rfl, hH, Nat.zero_le _, (by simp), rfl, rfl, rfl, rfl, rfl⟩ ?_
  rintro n_ r8 w6 ⟨k, rfl, hH7, hk, ha, e4_0, e4_1, e4_9, e4_10, e4_11⟩
  refine wp_seq_k fun K9 hK9 => ?_
  refine c_region ?_
  refine s_op (o_lss (a := (k : Int)) (b := ((l.length : Nat) : Int)) e4_11 e4_10 ?_)
  refine s_nil ?_
  refine t_norm (hK9 _ _ ?_)
  refine wp_seq_k fun K10 hK10 => ?_
  refine c_cond rfl (fun h11 => ?_) (fun h11 => ?_)
  · -- (k : Int) < ((l.length : Nat) : Int)
    refine wp_skip ?_
    refine t_norm (hK10 _ _ ?_)
    refine wp_seq_k fun K12 hK12 => ?_
    refine wp_block ?_
    refine wp_seq_k fun K13 hK13 => ?_
    refine c_region ?_
    obtain ⟨x17, hx18⟩ : ∃ x_, l[((k : Int)).toNat]? = some x_ := get_some (by omega)
    refine s_op (o_index1 Try.underlying28 ti3 e4_9 hv e4_11 (by omega) hx18 fun b14 o15 hc16 => ?_)
    refine s_op (o_load1 (v := (.int .i64 x17)) Try.underlying3 rfl rfl hH7 (seg_sub 2 rfl) hc16 ?_)
    refine s_op (o_assign (v := (.int .i64 x17)) rfl ?_)
    refine s_nil ?_
    refine t_norm (hK13 _ _ ?_)
    refine wp_seq_k fun K19 hK19 => ?_
    refine wp_seq_k fun K20 hK20 => ?_
    refine c_region ?_
    refine s_op (o_move (v := (.pointer (some ⟨sb, 0, none⟩))) e4_0 ?_)
    refine s_op (o_pnil (p := some _) Try.underlying57 rfl rfl ?_)
    refine s_nil ?_
    refine t_norm (hK20 _ _ ?_)
    refine c_false rfl rfl ?_
    refine wp_skip ?_
    refine t_norm (hK19 _ _ ?_)
    refine wp_seq_k fun K21 hK21 => ?_
    refine c_region ?_
    refine s_op (o_move (v := (.pointer (some ⟨sb, 0, none⟩))) e4_0 ?_)
    refine s_op (o_nilCheck rfl ?_)
    refine s_op (o_fieldAddr (k := 0) (fun _ => by kernel_rfl) rfl ?_)
    refine s_op (o_load1 (v := v) Try.underlying28 rfl rfl hH7 (seg_sub 1 rfl) (CellsAt.one rfl) ?_)
    refine s_op (o_move (v := (.int .i64 x17)) rfl ?_)
    refine s_op (o_callf (vs := #[v, (.int .i64 x17)]) ca49 rfl (args2 rfl rfl) (bs_c hH7.all (l := now) (ho.sl.mono (seg_sub 0 rfl)) hso hl x17) ?_)
    rintro _ w28 ⟨p22, rfl, hp23, hlo24, hhi25, hX26⟩
    refine ⟨_, rfl, ?_⟩
    have hH27 : Has E w28 [hs, [Hp.one sb (.cells #[v] 81 (0, 0))], R] := hX26.of_all
    refine s_op (o_move (v := (.tuple #[(.int .i64 (p22 : Int)), (.bool (decide (x17 ∈ now)))])) rfl ?_)
    refine s_op (o_extract (v := (.int .i64 (p22 : Int))) rfl rfl ?_)
    refine s_op (o_extract (v := (.bool (decide (x17 ∈ now)))) rfl rfl ?_)
    refine s_op (o_assign (v := (.int .i64 (p22 : Int))) rfl ?_)
    refine s_op (o_assign (v := (.bool (decide (x17 ∈ now)))) rfl ?_)
    refine s_nil ?_
    refine t_norm (hK21 _ _ ?_)
    refine wp_seq_k fun K29 hK29 => ?_
    refine c_region ?_
    refine s_op (o_move (v := (.bool (decide (x17 ∈ now)))) rfl ?_)
    refine s_op (o_not2 (b := decide (x17 ∈ now)) (b' := decide (¬ (x17 ∈ now))) rfl not_dec ?_)
    refine s_nil ?_
    refine t_norm (hK29 _ _ ?_)
    refine c_cond rfl (fun h30 => ?_) (fun h30 => ?_)
    · -- ¬ (x17 ∈ now)
      refine wp_seq_k fun K31 hK31 => ?_
      refine c_region ?_
      refine s_op (o_assign (v := (.bool false)) rfl ?_)
      refine s_nil ?_
      refine t_norm (hK31 _ _ ?_)
      refine wp_ret ?_
      refine b_ret (t_ret (t_ret (b_ret (t_ret (c_ret1 Try.results41  (v := (.bool false)) rfl ?_)))))
      exact ⟨by rw [decide_eq_false (fun g => h30 (g _ (List.mem_of_getElem? hx18)))], hH27⟩
    · -- not: ¬ (x17 ∈ now)
      refine wp_skip ?_
      refine b_norm ?_
      refine t_norm (hK12 _ _ ?_)
      refine c_region ?_
      refine s_op (o_add (a := (k : Int)) (b := 1) e4_11 rfl (w64 (by omega) (by omega)) ?_)
      refine s_op (o_move (v := (.int .i64 ((k : Int) + 1))) rfl ?_)
      refine s_nil ?_
      refine t_norm ⟨l.length - (k + 1), _, rfl, ?_, ?_⟩
      · omega
      · exact ⟨(k + 1), rfl, hH27, (by omega), (by rw [take_succ_of (show l[k]? = some _ from hx18)]; exact fun y hy => (List.mem_append.1 hy).elim (ha y) (fun g => List.mem_singleton.1 g ▸ Classical.not_not.1 h30)), e4_0, e4_1, e4_9, e4_10, rfl⟩
  · -- not: (k : Int) < ((l.length : Nat) : Int)
    refine wp_exit ?_
    refine t_exit (t_exit (x_in (?_)))
    refine t_norm (hK2 _ _ ?_)
    refine wp_seq_k fun K32 hK32 => ?_
    refine c_region ?_
    refine s_op (o_assign (v := (.bool true)) rfl ?_)
    refine s_nil ?_
    refine t_norm (hK32 _ _ ?_)
    refine wp_ret ?_
    refine c_ret1 Try.results41  (v := (.bool true)) rfl ?_
    have e : k = l.length := by omega
    rw [e, List.take_of_length_le (Nat.le_refl _)] at ha
    exact ⟨by rw [decide_eq_true ha], hH7⟩
end Go.Q
