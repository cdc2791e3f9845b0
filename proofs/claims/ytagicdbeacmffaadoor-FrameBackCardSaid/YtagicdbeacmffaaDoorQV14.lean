/-
  Parts of a walk: what functions of the program compute, each told by a theorem.
-/
import Derived.Test.YtagicdbeacmffaaDoorQV11
set_option linter.unusedVariables false
set_option linter.unusedSimpArgs false
namespace Go.Q
open Go.Proofs
set_option linter.unusedVariables false
set_option maxRecDepth 100000
attribute [local irreducible] wpList OK Code.wp
set_option maxHeartbeats 4000000 in
theorem told_c {E w : World} {R : List Hp} (hH : Has E w [R]) {v : Value} {l : List Fr} (hv : Sl R 4 v l.length (l.flatMap frC)) (hl : l.length ≤ 1000000) :
    Calls Tryd.prog 31 #[v] w fun e w' => ∃ v' hs', e = .returned v' ∧ Own 43 4 v' l.length (l.flatMap frC) hs' ∧ Has E w' [hs', R] := by
  have hn := hv.le4
  refine c_enter (args := [v]) Tryd.func31 rfl Tryd.ntmps31 (by simp) ?_
  refine wp_seq_k fun K1 hK1 => ?_
  refine c_region ?_
  refine s_op (o_assign (v := (.slice none 0 0)) rfl ?_)
  refine s_nil ?_
  refine t_norm (hK1 _ _ ?_)
  refine wp_seq_k fun K2 hK2 => ?_
  refine c_region ?_
  refine s_op (o_assign (v := (.slice none 0 0)) rfl ?_)
  refine s_nil ?_
  refine t_norm (hK2 _ _ ?_)
  refine wp_seq_k fun K3 hK3 => ?_
  refine wp_seq_k fun K4 hK4 => ?_
  refine c_region ?_
  refine s_op (o_assign (v := (.int .i64 0)) rfl ?_)
  refine s_nil ?_
  refine t_norm (hK4 _ _ ?_)
  refine wp_block ?_
  let I6 : Nat → (Nat → Value) → World → Prop := fun n__ r__ w__ => ∃ (k : Nat) (va : Value) (ha : List Hp) (acc : List Fr), n__ = l.length - k ∧ Has E w__ [ha, R] ∧ (k ≤ l.length) ∧ (Own 43 4 va acc.length (acc.flatMap frC) ha) ∧ (acc = l.take k) ∧ (acc.length ≤ k) ∧ r__ 0 = v ∧ r__ 2 = (.slice none 0 0) ∧ r__ 3 = va ∧ r__ 4 = (.int .i64 (k : Int))
  have hH7 : Has E w [[], R] := (Has.nil hH).first 2 rfl
  refine c_loop I6 _ ⟨0, (.slice none 0 0), [], [], rfl, hH7, Nat.zero_le _, Own.nil 43 4, rfl, (by simp), rfl, rfl, rfl, rfl⟩ ?_
  rintro n_ r10 w8 ⟨k, va, ha, acc, rfl, hH9, hk, hoa, hacc, hac, e5_0, e5_2, e5_3, e5_4⟩
  refine wp_seq_k fun K11 hK11 => ?_
  refine wp_seq_k fun K12 hK12 => ?_
  refine c_region ?_
  refine s_op (o_move (v := (.int .i64 (k : Int))) e5_4 ?_)
  refine s_op (o_move (v := v) e5_0 ?_)
  refine s_op (o_lenS Tryd.underlying52 rfl hv ?_)
  refine s_op (o_lss (a := (k : Int)) (b := ((l.length : Nat) : Int)) rfl rfl ?_)
  refine s_nil ?_
  refine t_norm (hK12 _ _ ?_)
  refine c_cond rfl (fun h13 => ?_) (fun h13 => ?_)
  · -- (k : Int) < ((l.length : Nat) : Int)
    refine wp_skip ?_
    refine t_norm (hK11 _ _ ?_)
    refine wp_seq_k fun K14 hK14 => ?_
    refine wp_block ?_
    refine c_region ?_
    refine s_op (o_move (v := va) e5_3 ?_)
    refine s_op (o_move (v := v) e5_0 ?_)
    refine s_op (o_move (v := (.int .i64 (k : Int))) e5_4 ?_)
    obtain ⟨x18, hx19⟩ : ∃ x_, l[((k : Int)).toNat]? = some x_ := get_some (by omega)
    refine s_op (o_indexF frC_len Tryd.underlying52 ti40 rfl hv rfl rfl (by omega) hx19 fun b15 o16 hc17 => ?_)
    refine s_op (o_loadN (cs := [(.int .i64 x18.ep), (.int .i64 x18.pl), (.int .i64 x18.gsn), (S x18.data)]) Tryd.underlying40 rfl ti40 rfl hH9 (seg_sub 1 rfl) hc17 ?_)
    refine s_op (o_buildSlice (ps := #[(0, (.agg #[(.int .i64 x18.ep), (.int .i64 x18.pl), (.int .i64 x18.gsn), (S x18.data)]))]) (cells := #[(.int .i64 x18.ep), (.int .i64 x18.pl), (.int .i64 x18.gsn), (S x18.data)]) Tryd.underlying55 ti43 (by decide) (parts1 rfl) (by kernel_rfl) hH9 fun b20 w21 hH22 => ?_)
    refine s_op (o_append Tryd.underlying55 ti43 rfl (by decide) rfl hoa rfl (sl_litF (f := frC) (l := [x18]) frC_len rfl rfl (by simp)) (hH22.front 1 rfl) (seg_sub 0 rfl) (one_fr _) (by simp; omega) (by simp; omega) fun v23 s24 w26 ho25 hH27 => ?_)
    have ho25 : Own 43 4 v23 (acc ++ [x18]).length ((acc ++ [x18]).flatMap frC) s24 := ho25.appF
    refine s_op (o_assign (v := v23) rfl ?_)
    refine s_nil ?_
    refine b_norm ?_
    refine t_norm (hK14 _ _ ?_)
    refine c_region ?_
    refine s_op (o_move (v := (.int .i64 (k : Int))) e5_4 ?_)
    refine s_op (o_add (a := (k : Int)) (b := 1) rfl rfl (w64 (by omega) (by omega)) ?_)
    refine s_op (o_assign (v := (.int .i64 ((k : Int) + 1))) rfl ?_)
    refine s_nil ?_
    have hH28 : Has E w26 [s24, R] := ((hH27.front 2 rfl).front 1 rfl).first 2 rfl
    refine t_norm ⟨l.length - (k + 1), _, rfl, ?_, ?_⟩
    · omega
    · exact ⟨(k + 1), v23, s24, (acc ++ [x18]), rfl, hH28, (by omega), (ho25), (by rw [take_succ_of (show l[k]? = some _ from hx19), ← hacc]), (by simp only [List.length_append, List.length_cons, List.length_nil]; omega), e5_0, e5_2, rfl, rfl⟩
  · -- not: (k : Int) < ((l.length : Nat) : Int)
    refine wp_exit ?_
    refine t_exit (t_exit (x_in (?_)))
    refine t_norm (hK3 _ _ ?_)
    refine wp_seq_k fun K29 hK29 => ?_
    refine c_region ?_
    refine s_op (o_move (v := va) e5_3 ?_)
    refine s_op (o_assign (v := va) rfl ?_)
    refine s_nil ?_
    refine t_norm (hK29 _ _ ?_)
    refine wp_ret ?_
    refine c_ret1 Tryd.results31  (v := va) rfl ?_
    have e : k = l.length := by omega
    rw [e, List.take_length] at hacc
    exact ⟨_, _, rfl, by rw [← hacc]; exact hoa, hH9⟩
set_option maxHeartbeats 4000000 in
theorem same3_c {E w : World} {R : List Hp} (hH : Has E w [R]) {va vb : Value} {a b : List Fr} (hva : Sl R 4 va a.length (a.flatMap frC)) (hvb : Sl R 4 vb b.length (b.flatMap frC)) :
    Calls Tryd.prog 30 #[va, vb] w fun e w' => e = .returned (.bool (sameF a b)) ∧ Has E w' [R] := by
  have hn := hva.le4
  have hn2 := hvb.le4
  refine c_enter (args := [va, vb]) Tryd.func30 rfl Tryd.ntmps30 (by simp) ?_
  refine wp_seq_k fun K1 hK1 => ?_
  refine c_region ?_
  refine s_op (o_assign (v := (.bool false)) rfl ?_)
  refine s_nil ?_
  refine t_norm (hK1 _ _ ?_)
  refine wp_seq_k fun K2 hK2 => ?_
  refine wp_seq_k fun K3 hK3 => ?_
  refine c_region ?_
  refine s_op (o_move (v := va) rfl ?_)
  refine s_op (o_lenS Tryd.underlying55 rfl hva ?_)
  refine s_op (o_move (v := vb) rfl ?_)
  refine s_op (o_lenS Tryd.underlying55 rfl hvb ?_)
  refine s_op (o_neq (a := ((a.length : Nat) : Int)) (b := ((b.length : Nat) : Int)) rfl rfl ?_)
  refine s_nil ?_
  refine t_norm (hK3 _ _ ?_)
  refine c_cond rfl (fun h4 => ?_) (fun h4 => ?_)
  · -- ((a.length : Nat) : Int) ≠ ((b.length : Nat) : Int)
    refine wp_seq_k fun K5 hK5 => ?_
    refine c_region ?_
    refine s_op (o_assign (v := (.bool false)) rfl ?_)
    refine s_nil ?_
    refine t_norm (hK5 _ _ ?_)
    refine wp_ret ?_
    refine t_ret (c_ret1 Tryd.results30  (v := (.bool false)) rfl ?_)
    exact ⟨by rw [sameF_no (fun g => by have := congrArg List.length g; omega)], hH⟩
  · -- not: ((a.length : Nat) : Int) ≠ ((b.length : Nat) : Int)
    refine wp_skip ?_
    refine t_norm (hK2 _ _ ?_)
    refine wp_seq_k fun K6 hK6 => ?_
    refine wp_seq_k fun K7 hK7 => ?_
    refine c_region ?_
    refine s_op (o_assign (v := (.int .i64 0)) rfl ?_)
    refine s_nil ?_
    refine t_norm (hK7 _ _ ?_)
    refine wp_block ?_
    let I9 : Nat → (Nat → Value) → World → Prop := fun n__ r__ w__ => ∃ (k : Nat), n__ = a.length - k ∧ Has E w__ [R] ∧ (k ≤ a.length) ∧ (∀ j, j < k → a[j]? = b[j]?) ∧ r__ 0 = va ∧ r__ 1 = vb ∧ r__ 5 = (.int .i64 (k : Int)) ∧ r__ 10 = (.bool (decide (((a.length : Nat) : Int) ≠ ((b.length : Nat) : Int))))
    refine c_loop I9 _ ⟨0, rfl, hH, Nat.zero_le _, (by omega), rfl, rfl, rfl, rfl⟩ ?_
    rintro n_ r12 w10 ⟨k, rfl, hH11, hk, he, e8_0, e8_1, e8_5, e8_10⟩
    refine wp_seq_k fun K13 hK13 => ?_
    refine wp_seq_k fun K14 hK14 => ?_
    refine c_region ?_
    refine s_op (o_move (v := (.int .i64 (k : Int))) e8_5 ?_)
    refine s_op (o_move (v := va) e8_0 ?_)
    refine s_op (o_lenS Tryd.underlying55 rfl hva ?_)
    refine s_op (o_lss (a := (k : Int)) (b := ((a.length : Nat) : Int)) rfl rfl ?_)
    refine s_nil ?_
    refine t_norm (hK14 _ _ ?_)
    refine c_cond rfl (fun h15 => ?_) (fun h15 => ?_)
    · -- (k : Int) < ((a.length : Nat) : Int)
      refine wp_skip ?_
      refine t_norm (hK13 _ _ ?_)
      refine wp_seq_k fun K16 hK16 => ?_
      refine wp_block ?_
      refine wp_seq_k fun K17 hK17 => ?_
      obtain ⟨x21, hx22⟩ : ∃ x_, a[((k : Int)).toNat]? = some x_ := get_some (by omega)
      obtain ⟨x26, hx27⟩ : ∃ x_, b[((k : Int)).toNat]? = some x_ := get_some (by omega)
      refine c_flow [R] (fun i_ => match i_ with | _ => []) (fun i_ v_ h_ => match i_ with | 0 => v_ = va ∧ h_ = [] | 1 => v_ = (.int .i64 (k : Int)) ∧ h_ = [] | 2 => ∃ (b18 : Nat) (o19 : Nat), v_ = (.pointer (some ⟨b18, o19, none⟩)) ∧ h_ = [] ∧ (CellsAt R b18 o19 [(.int .i64 x21.ep), (.int .i64 x21.pl), (.int .i64 x21.gsn), (S x21.data)]) | 3 => v_ = (.agg #[(.int .i64 x21.ep), (.int .i64 x21.pl), (.int .i64 x21.gsn), (S x21.data)]) ∧ h_ = [] | 4 => v_ = vb ∧ h_ = [] | 5 => v_ = (.int .i64 (k : Int)) ∧ h_ = [] | 6 => ∃ (b23 : Nat) (o24 : Nat), v_ = (.pointer (some ⟨b23, o24, none⟩)) ∧ h_ = [] ∧ (CellsAt R b23 o24 [(.int .i64 x26.ep), (.int .i64 x26.pl), (.int .i64 x26.gsn), (S x26.data)]) | 7 => v_ = (.agg #[(.int .i64 x26.ep), (.int .i64 x26.pl), (.int .i64 x26.gsn), (S x26.data)]) ∧ h_ = [] | 8 => v_ = (.bool (!(frEq x21 x26))) ∧ h_ = [] | _ => True) mixed (by kernel_rfl) (flow_has (cs := []) hH11 rfl) ?_ ?_
      · intro i_ o_ ho_ r' w' G hs_ ht
        match i_, ho_ with
        | 0, ho_ =>
          obtain rfl := Option.some.inj ho_
          have e0 : r' 0 = va := (ht.was 0 (by kernel_rfl)).trans e8_0
          have hG := ht.has.drop
          refine o_move (v := va) e0 ?_
          exact ⟨_, ⟨rfl, rfl⟩, hG⟩
        | 1, ho_ =>
          obtain rfl := Option.some.inj ho_
          have e5 : r' 5 = (.int .i64 (k : Int)) := (ht.was 5 (by kernel_rfl)).trans e8_5
          have hG := ht.has.drop
          refine o_move (v := (.int .i64 (k : Int))) e5 ?_
          exact ⟨_, ⟨rfl, rfl⟩, hG⟩
        | 2, ho_ =>
          obtain rfl := Option.some.inj ho_
          obtain ⟨e17, eh0⟩ := (ht.done 0 _ rfl rfl).1
          obtain ⟨e18, eh1⟩ := (ht.done 1 _ rfl rfl).1
          have hG := ht.has.drop
          refine o_indexF frC_len Tryd.underlying55 ti43 e17 hva rfl e18 (by omega) hx22 fun b18 o19 hc20 => ?_
          exact ⟨_, ⟨b18, o19, rfl, rfl, hc20⟩, hG⟩
        | 3, ho_ =>
          obtain rfl := Option.some.inj ho_
          obtain ⟨b18, o19, e19, eh2, hc20⟩ := (ht.done 2 _ rfl rfl).1
          have hG := ht.has.drop
          refine o_loadN (cs := [(.int .i64 x21.ep), (.int .i64 x21.pl), (.int .i64 x21.gsn), (S x21.data)]) Tryd.underlying43 rfl ti43 e19 hG (ht.fr R (by simp)) hc20 ?_
          exact ⟨_, ⟨rfl, rfl⟩, hG⟩
        | 4, ho_ =>
          obtain rfl := Option.some.inj ho_
          have e1 : r' 1 = vb := (ht.was 1 (by kernel_rfl)).trans e8_1
          have hG := ht.has.drop
          refine o_move (v := vb) e1 ?_
          exact ⟨_, ⟨rfl, rfl⟩, hG⟩
        | 5, ho_ =>
          obtain rfl := Option.some.inj ho_
          have e5 : r' 5 = (.int .i64 (k : Int)) := (ht.was 5 (by kernel_rfl)).trans e8_5
          have hG := ht.has.drop
          refine o_move (v := (.int .i64 (k : Int))) e5 ?_
          exact ⟨_, ⟨rfl, rfl⟩, hG⟩
        | 6, ho_ =>
          obtain rfl := Option.some.inj ho_
          obtain ⟨e21, eh4⟩ := (ht.done 4 _ rfl rfl).1
          obtain ⟨e22, eh5⟩ := (ht.done 5 _ rfl rfl).1
          have hG := ht.has.drop
          refine o_indexF frC_len Tryd.underlying55 ti43 e21 hvb rfl e22 (by omega) hx27 fun b23 o24 hc25 => ?_
          exact ⟨_, ⟨b23, o24, rfl, rfl, hc25⟩, hG⟩
        | 7, ho_ =>
          obtain rfl := Option.some.inj ho_
          obtain ⟨b23, o24, e23, eh6, hc25⟩ := (ht.done 6 _ rfl rfl).1
          have hG := ht.has.drop
          refine o_loadN (cs := [(.int .i64 x26.ep), (.int .i64 x26.pl), (.int .i64 x26.gsn), (S x26.data)]) Tryd.underlying43 rfl ti43 e23 hG (ht.fr R (by simp)) hc25 ?_
          exact ⟨_, ⟨rfl, rfl⟩, hG⟩
        | 8, ho_ =>
          obtain rfl := Option.some.inj ho_
          obtain ⟨b18, o19, e19, eh2, hc20⟩ := (ht.done 2 _ rfl rfl).1
          obtain ⟨e20, eh3⟩ := (ht.done 3 _ rfl rfl).1
          obtain ⟨b23, o24, e23, eh6, hc25⟩ := (ht.done 6 _ rfl rfl).1
          obtain ⟨e24, eh7⟩ := (ht.done 7 _ rfl rfl).1
          have hG := ht.has.drop
          refine o_neFr (a := x21) (b := x26) (by decide) e20 e24 ?_
          exact ⟨_, ⟨rfl, rfl⟩, hG⟩
        | i_ + 9, ho_ => exact absurd ho_ (by simp)
      · intro vs28 hs29 w30 hT31 hH32
        obtain ⟨e0_, eh0_⟩ := hT31 0 _ rfl
        obtain ⟨e1_, eh1_⟩ := hT31 1 _ rfl
        obtain ⟨b18, o19, e2_, eh2_, hc20⟩ := hT31 2 _ rfl
        obtain ⟨e3_, eh3_⟩ := hT31 3 _ rfl
        obtain ⟨e4_, eh4_⟩ := hT31 4 _ rfl
        obtain ⟨e5_, eh5_⟩ := hT31 5 _ rfl
        obtain ⟨b23, o24, e6_, eh6_, hc25⟩ := hT31 6 _ rfl
        obtain ⟨e7_, eh7_⟩ := hT31 7 _ rfl
        obtain ⟨e8_, eh8_⟩ := hT31 8 _ rfl
        have hH33 : Has E w30 ([R] ++ []) := flow_back (cs := []) hH32 (by show (hs29 0 ++ (hs29 1 ++ (hs29 2 ++ (hs29 3 ++ (hs29 4 ++ (hs29 5 ++ (hs29 6 ++ (hs29 7 ++ (hs29 8 ++ []))))))))) = _; rw [eh0_, eh1_, eh2_, eh3_, eh4_, eh5_, eh6_, eh7_, eh8_]; rfl)
        generalize hr35 : puts vs28 _ 0 _ = r34
        have e36_0 : r34 0 = va := by rw [← hr35]; exact e8_0
        have e36_1 : r34 1 = vb := by rw [← hr35]; exact e8_1
        have e36_5 : r34 5 = (.int .i64 (k : Int)) := by rw [← hr35]; exact e8_5
        have e36_10 : r34 10 = (.bool (decide (((a.length : Nat) : Int) ≠ ((b.length : Nat) : Int)))) := by rw [← hr35]; exact e8_10
        have e36_14 : r34 14 = (.bool (decide ((k : Int) < ((a.length : Nat) : Int)))) := by rw [← hr35]; exact rfl
        have e36_25 : r34 25 = (.bool (!(frEq x21 x26))) := by rw [← hr35]; exact e8_
        refine t_norm (hK17 _ _ ?_)
        refine c_condb e36_25 (fun h37 => ?_) (fun h37 => ?_)
        · -- (!(frEq x21 x26))
          refine wp_seq_k fun K38 hK38 => ?_
          refine c_region ?_
          refine s_op (o_assign (v := (.bool false)) rfl ?_)
          refine s_nil ?_
          refine t_norm (hK38 _ _ ?_)
          refine wp_ret ?_
          refine b_ret (t_ret (t_ret (b_ret (t_ret (c_ret1 Tryd.results30  (v := (.bool false)) rfl ?_)))))
          exact ⟨by rw [sameF_no (fun g => absurd (frEq_iff.2 (fsame_at (show a[k]? = some _ from hx22) (show b[k]? = some _ from hx27) g)) (by rw [not_t h37]; decide))], hH33⟩
        · -- not: (!(frEq x21 x26))
          refine wp_skip ?_
          refine b_norm ?_
          refine t_norm (hK16 _ _ ?_)
          refine c_region ?_
          refine s_op (o_move (v := (.int .i64 (k : Int))) e36_5 ?_)
          refine s_op (o_add (a := (k : Int)) (b := 1) rfl rfl (w64 (by omega) (by omega)) ?_)
          refine s_op (o_assign (v := (.int .i64 ((k : Int) + 1))) rfl ?_)
          refine s_nil ?_
          refine t_norm ⟨a.length - (k + 1), _, rfl, ?_, ?_⟩
          · omega
          · exact ⟨(k + 1), rfl, hH33, (by omega), (fsame_step he (show a[k]? = some _ from hx22) (show b[k]? = some _ from hx27) (frEq_iff.1 (not_f h37))), e36_0, e36_1, rfl, e36_10⟩
    · -- not: (k : Int) < ((a.length : Nat) : Int)
      refine wp_exit ?_
      refine t_exit (t_exit (x_in (?_)))
      refine t_norm (hK6 _ _ ?_)
      refine wp_seq_k fun K39 hK39 => ?_
      refine c_region ?_
      refine s_op (o_assign (v := (.bool true)) rfl ?_)
      refine s_nil ?_
      refine t_norm (hK39 _ _ ?_)
      refine wp_ret ?_
      refine c_ret1 Tryd.results30  (v := (.bool true)) rfl ?_
      have e : a = b := List.ext_getElem? fun j => by
        rcases Nat.lt_or_ge j k with g | g
        · exact he j g
        · rw [List.getElem?_eq_none (by omega), List.getElem?_eq_none (by omega)]
      exact ⟨by rw [sameF_iff.2 e], hH11⟩
end Go.Q
