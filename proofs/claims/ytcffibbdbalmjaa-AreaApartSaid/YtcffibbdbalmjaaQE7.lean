/-
  Parts of a walk: what functions of the program compute, each told by a theorem.
-/
import Derived.Test.YtcffibbdbalmjaaQE6
import Derived.Test.YtcffibbdbalmjaaQDevK
set_option linter.unusedVariables false
set_option linter.unusedSimpArgs false
namespace Go.Q
open Go.Proofs
set_option linter.unusedVariables false
set_option maxRecDepth 100000
attribute [local irreducible] wpList OK Code.wp
set_option maxHeartbeats 4000000 in
theorem same_c {E w : World} {R : List Hp} (hH : Has E w [R]) {va vb : Value} {a b : List Int} (hva : Ints R va a) (hvb : Ints R vb b) :
    Calls Try.prog 49 #[va, vb] w fun e w' => e = .returned (.bool (decide (a = b))) ∧ Has E w' [R] := by
  have hna := hva.le
  have hnb := hvb.le
  refine c_enter (args := [va, vb]) Try.func49 rfl Try.ntmps49 (by simp) ?_
  refine wp_seq_k fun K1 hK1 => ?_
  refine c_region ?_
  refine s_op (o_assign (v := (.bool false)) rfl ?_)
  refine s_nil ?_
  refine t_norm (hK1 _ _ ?_)
  refine wp_seq_k fun K2 hK2 => ?_
  refine wp_seq_k fun K3 hK3 => ?_
  refine c_region ?_
  refine s_op (o_move (v := va) rfl ?_)
  refine s_op (o_lenS Try.underlying54 rfl hva ?_)
  refine s_op (o_move (v := vb) rfl ?_)
  refine s_op (o_lenS Try.underlying54 rfl hvb ?_)
  refine s_op (o_neq (a := ((a.length : Nat) : Int)) (b := ((b.length : Nat) : Int)) rfl rfl ?_)
  refine s_nil ?_
  refine t_norm (hK3 _ _ ?_)
  refine c_cond rfl (fun h4 => ?_) (fun h4 => ?_)
  · -- ((a.length : Nat) : Int) ≠ ((b.length : Nat) : Int)
    refine wp_seq_k fun K5 hK5 => ?_
    refine c_region ?_
    refine s_op (o_assign (v := (.bool false)) rfl ?_)
    refine s_nil ?_
    refine t_norm (hK5 _ _ ?_)
    refine wp_ret ?_
    refine t_ret (c_ret1 Try.results49  (v := (.bool false)) rfl ?_)
    have e : a ≠ b := fun e => by
      subst e
      omega
    exact ⟨by rw [decide_eq_false e], hH⟩
  · -- not: ((a.length : Nat) : Int) ≠ ((b.length : Nat) : Int)
    refine wp_skip ?_
    refine t_norm (hK2 _ _ ?_)
    refine wp_seq_k fun K6 hK6 => ?_
    refine wp_seq_k fun K7 hK7 => ?_
    refine c_region ?_
    refine s_op (o_assign (v := (.int .i64 0)) rfl ?_)
    refine s_nil ?_
    refine t_norm (hK7 _ _ ?_)
    refine wp_block ?_
    let I9 : Nat → (Nat → Value) → World → Prop := fun n__ r__ w__ => ∃ (k : Nat), n__ = a.length - k ∧ Has E w__ [R] ∧ (k ≤ a.length) ∧ (∀ j, j < k → a[j]? = b[j]?) ∧ r__ 0 = va ∧ r__ 1 = vb ∧ r__ 5 = (.int .i64 (k : Int)) ∧ r__ 10 = (.bool (decide (((a.length : Nat) : Int) ≠ ((b.length : Nat) : Int))))
    refine c_loop I9 _ ⟨0, rfl, hH, Nat.zero_le _, (by omega), rfl, rfl, rfl, rfl⟩ ?_
    rintro n_ r12 w10 ⟨k, rfl, hH11, hk, he, e8_0, e8_1, e8_5, e8_10⟩
    refine wp_seq_k fun K13 hK13 => ?_
    refine wp_seq_k fun K14 hK14 => ?_
    refine c_region ?_
    refine s_op (o_move (v := (.int .i64 (k : Int))) e8_5 ?_)
    refine s_op (o_move (v := va) e8_0 ?_)
    refine s_op (o_lenS Try.underlying54 rfl hva ?_)
    refine s_op (o_lss (a := (k : Int)) (b := ((a.length : Nat) : Int)) rfl rfl ?_)
    refine s_nil ?_
    refine t_norm (hK14 _ _ ?_)
    refine c_cond rfl (fun h15 => ?_) (fun h15 => ?_)
    · -- (k : Int) < ((a.length : Nat) : Int)
      refine wp_skip ?_
      refine t_norm (hK13 _ _ ?_)
      refine wp_seq_k fun K16 hK16 => ?_
      refine wp_block ?_
      refine wp_seq_k fun K17 hK17 => ?_
      obtain ⟨x21, hx22⟩ : ∃ x_, a[((k : Int)).toNat]? = some x_ := get_some (by omega)
      obtain ⟨x26, hx27⟩ : ∃ x_, b[((k : Int)).toNat]? = some x_ := get_some (by omega)
      refine c_flow [R] (fun i_ => match i_ with | _ => []) (fun i_ v_ h_ => match i_ with | 0 => v_ = va ∧ h_ = [] | 1 => v_ = (.int .i64 (k : Int)) ∧ h_ = [] | 2 => ∃ (b18 : Nat) (o19 : Nat), v_ = (.pointer (some ⟨b18, o19, none⟩)) ∧ h_ = [] ∧ (CellsAt R b18 o19 [(.int .i64 x21)]) | 3 => v_ = (.int .i64 x21) ∧ h_ = [] | 4 => v_ = vb ∧ h_ = [] | 5 => v_ = (.int .i64 (k : Int)) ∧ h_ = [] | 6 => ∃ (b23 : Nat) (o24 : Nat), v_ = (.pointer (some ⟨b23, o24, none⟩)) ∧ h_ = [] ∧ (CellsAt R b23 o24 [(.int .i64 x26)]) | 7 => v_ = (.int .i64 x26) ∧ h_ = [] | 8 => v_ = (.bool (decide (x21 ≠ x26))) ∧ h_ = [] | _ => True) mixed (by kernel_rfl) (flow_has (cs := []) hH11 rfl) ?_ ?_
      · intro i_ o_ ho_ r' w' G hs_ ht
        match i_, ho_ with
        | 0, ho_ =>
          obtain rfl := Option.some.inj ho_
          have e0 : r' 0 = va := (ht.was 0 (by kernel_rfl)).trans e8_0
          have hG := ht.has.drop
          refine o_move (v := va) e0 ?_
          exact ⟨_, ⟨rfl, rfl⟩, hG⟩
        | 1, ho_ =>
          obtain rfl := Option.some.inj ho_
          have e5 : r' 5 = (.int .i64 (k : Int)) := (ht.was 5 (by kernel_rfl)).trans e8_5
          have hG := ht.has.drop
          refine o_move (v := (.int .i64 (k : Int))) e5 ?_
          exact ⟨_, ⟨rfl, rfl⟩, hG⟩
        | 2, ho_ =>
          obtain rfl := Option.some.inj ho_
          obtain ⟨e17, eh0⟩ := (ht.done 0 _ rfl rfl).1
          obtain ⟨e18, eh1⟩ := (ht.done 1 _ rfl rfl).1
          have hG := ht.has.drop
          refine o_index1 Try.underlying54 ti3 e17 hva e18 (by omega) hx22 fun b18 o19 hc20 => ?_
          exact ⟨_, ⟨b18, o19, rfl, rfl, hc20⟩, hG⟩
        | 3, ho_ =>
          obtain rfl := Option.some.inj ho_
          obtain ⟨b18, o19, e19, eh2, hc20⟩ := (ht.done 2 _ rfl rfl).1
          have hG := ht.has.drop
          refine o_load1 (v := (.int .i64 x21)) Try.underlying3 rfl e19 hG (ht.fr R (by simp)) hc20 ?_
          exact ⟨_, ⟨rfl, rfl⟩, hG⟩
        | 4, ho_ =>
          obtain rfl := Option.some.inj ho_
          have e1 : r' 1 = vb := (ht.was 1 (by kernel_rfl)).trans e8_1
          have hG := ht.has.drop
          refine o_move (v := vb) e1 ?_
          exact ⟨_, ⟨rfl, rfl⟩, hG⟩
        | 5, ho_ =>
          obtain rfl := Option.some.inj ho_
          have e5 : r' 5 = (.int .i64 (k : Int)) := (ht.was 5 (by kernel_rfl)).trans e8_5
          have hG := ht.has.drop
          refine o_move (v := (.int .i64 (k : Int))) e5 ?_
          exact ⟨_, ⟨rfl, rfl⟩, hG⟩
        | 6, ho_ =>
          obtain rfl := Option.some.inj ho_
          obtain ⟨e21, eh4⟩ := (ht.done 4 _ rfl rfl).1
          obtain ⟨e22, eh5⟩ := (ht.done 5 _ rfl rfl).1
          have hG := ht.has.drop
          refine o_index1 Try.underlying54 ti3 e21 hvb e22 (by omega) hx27 fun b23 o24 hc25 => ?_
          exact ⟨_, ⟨b23, o24, rfl, rfl, hc25⟩, hG⟩
        | 7, ho_ =>
          obtain rfl := Option.some.inj ho_
          obtain ⟨b23, o24, e23, eh6, hc25⟩ := (ht.done 6 _ rfl rfl).1
          have hG := ht.has.drop
          refine o_load1 (v := (.int .i64 x26)) Try.underlying3 rfl e23 hG (ht.fr R (by simp)) hc25 ?_
          exact ⟨_, ⟨rfl, rfl⟩, hG⟩
        | 8, ho_ =>
          obtain rfl := Option.some.inj ho_
          obtain ⟨b18, o19, e19, eh2, hc20⟩ := (ht.done 2 _ rfl rfl).1
          obtain ⟨e20, eh3⟩ := (ht.done 3 _ rfl rfl).1
          obtain ⟨b23, o24, e23, eh6, hc25⟩ := (ht.done 6 _ rfl rfl).1
          obtain ⟨e24, eh7⟩ := (ht.done 7 _ rfl rfl).1
          have hG := ht.has.drop
          refine o_neq (a := x21) (b := x26) e20 e24 ?_
          exact ⟨_, ⟨rfl, rfl⟩, hG⟩
        | i_ + 9, ho_ => exact absurd ho_ (by simp)
      · intro vs28 hs29 w30 hT31 hH32
        obtain ⟨e0_, eh0_⟩ := hT31 0 _ rfl
        obtain ⟨e1_, eh1_⟩ := hT31 1 _ rfl
        obtain ⟨b18, o19, e2_, eh2_, hc20⟩ := hT31 2 _ rfl
        obtain ⟨e3_, eh3_⟩ := hT31 3 _ rfl
        obtain ⟨e4_, eh4_⟩ := hT31 4 _ rfl
        obtain ⟨e5_, eh5_⟩ := hT31 5 _ rfl
        obtain ⟨b23, o24, e6_, eh6_, hc25⟩ := hT31 6 _ rfl
        obtain ⟨e7_, eh7_⟩ := hT31 7 _ rfl
        obtain ⟨e8_, eh8_⟩ := hT31 8 _ rfl
        have hH33 : Has E w30 ([R] ++ []) := flow_back (cs := []) hH32 (by show (hs29 0 ++ (hs29 1 ++ (hs29 2 ++ (hs29 3 ++ (hs29 4 ++ (hs29 5 ++ (hs29 6 ++ (hs29 7 ++ (hs29 8 ++ []))))))))) = _; rw [eh0_, eh1_, eh2_, eh3_, eh4_, eh5_, eh6_, eh7_, eh8_]; rfl)
        generalize hr35 : puts vs28 _ 0 _ = r34
        have e36_0 : r34 0 = va := by rw [← hr35]; exact e8_0
        have e36_1 : r34 1 = vb := by rw [← hr35]; exact e8_1
        have e36_5 : r34 5 = (.int .i64 (k : Int)) := by rw [← hr35]; exact e8_5
        have e36_10 : r34 10 = (.bool (decide (((a.length : Nat) : Int) ≠ ((b.length : Nat) : Int)))) := by rw [← hr35]; exact e8_10
        have e36_14 : r34 14 = (.bool (decide ((k : Int) < ((a.length : Nat) : Int)))) := by rw [← hr35]; exact rfl
        have e36_25 : r34 25 = (.bool (decide (x21 ≠ x26))) := by rw [← hr35]; exact e8_
        refine t_norm (hK17 _ _ ?_)
        refine c_cond e36_25 (fun h37 => ?_) (fun h37 => ?_)
        · -- x21 ≠ x26
          refine wp_seq_k fun K38 hK38 => ?_
          refine c_region ?_
          refine s_op (o_assign (v := (.bool false)) rfl ?_)
          refine s_nil ?_
          refine t_norm (hK38 _ _ ?_)
          refine wp_ret ?_
          refine b_ret (t_ret (t_ret (b_ret (t_ret (c_ret1 Try.results49  (v := (.bool false)) rfl ?_)))))
          have e : a ≠ b := fun e => by
            subst e
            have e1 := hx22.symm.trans hx27
            cases e1
            omega
          exact ⟨by rw [decide_eq_false e], hH33⟩
        · -- not: x21 ≠ x26
          refine wp_skip ?_
          refine b_norm ?_
          refine t_norm (hK16 _ _ ?_)
          refine c_region ?_
          refine s_op (o_move (v := (.int .i64 (k : Int))) e36_5 ?_)
          refine s_op (o_add (a := (k : Int)) (b := 1) rfl rfl (w64 (by omega) (by omega)) ?_)
          refine s_op (o_assign (v := (.int .i64 ((k : Int) + 1))) rfl ?_)
          refine s_nil ?_
          refine t_norm ⟨a.length - (k + 1), _, rfl, ?_, ?_⟩
          · omega
          · exact ⟨(k + 1), rfl, hH33, (by omega), (same_step he (by simpa using hx22) (by simpa using hx27) (by omega)), e36_0, e36_1, rfl, e36_10⟩
    · -- not: (k : Int) < ((a.length : Nat) : Int)
      refine wp_exit ?_
      refine t_exit (t_exit (x_in (?_)))
      refine t_norm (hK6 _ _ ?_)
      refine wp_seq_k fun K39 hK39 => ?_
      refine c_region ?_
      refine s_op (o_assign (v := (.bool true)) rfl ?_)
      refine s_nil ?_
      refine t_norm (hK39 _ _ ?_)
      refine wp_ret ?_
      refine c_ret1 Try.results49  (v := (.bool true)) rfl ?_
      have e : a = b := List.ext_getElem? fun j => by
        rcases Nat.lt_or_ge j k with g | g
        · exact he j g
        · rw [List.getElem?_eq_none (by omega), List.getElem?_eq_none (by omega)]
      exact ⟨by rw [decide_eq_true e], hH11⟩
set_option maxHeartbeats 4000000 in
theorem refhas_c {E w : World} {R : List Hp} (hH : Has E w [R]) {v : Value} {l : List Int} (hv : Ints R v l) (n : Int) :
    Calls Try.prog 34 #[v, (.int .i64 n)] w fun e w' => e = .returned (.bool (decide (n ∈ l))) ∧ Has E w' [R] := by
  have hn_ := hv.le
  refine c_enter (args := [v, (.int .i64 n)]) Try.func34 rfl Try.ntmps34 (by simp) ?_
  refine wp_seq_k fun K1 hK1 => ?_
  refine c_region ?_
  refine s_op (o_assign (v := (.bool false)) rfl ?_)
  refine s_nil ?_
  refine t_norm (hK1 _ _ ?_)
  refine wp_seq_k fun K2 hK2 => ?_
  refine wp_seq_k fun K3 hK3 => ?_
  refine c_region ?_
  refine s_op (o_assign (v := (.int .i64 0)) rfl ?_)
  refine s_nil ?_
  refine t_norm (hK3 _ _ ?_)
  refine wp_block ?_
  let I5 : Nat → (Nat → Value) → World → Prop := fun n__ r__ w__ => ∃ (k : Nat), n__ = l.length - k ∧ Has E w__ [R] ∧ (k ≤ l.length) ∧ (n ∉ l.take k) ∧ r__ 0 = v ∧ r__ 1 = (.int .i64 n) ∧ r__ 5 = (.int .i64 (k : Int))
  refine c_loop I5 _ ⟨0, rfl, hH, Nat.zero_le _, (by simp), rfl, rfl, rfl⟩ ?_
  rintro n_ r8 w6 ⟨k, rfl, hH7, hk, hn, e4_0, e4_1, e4_5⟩
  refine wp_seq_k fun K9 hK9 => ?_
  refine wp_seq_k fun K10 hK10 => ?_
  refine c_region ?_
  refine s_op (o_move (v := (.int .i64 (k : Int))) e4_5 ?_)
  refine s_op (o_move (v := v) e4_0 ?_)
  refine s_op (o_lenS Try.underlying54 rfl hv ?_)
  refine s_op (o_lss (a := (k : Int)) (b := ((l.length : Nat) : Int)) rfl rfl ?_)
  refine s_nil ?_
  refine t_norm (hK10 _ _ ?_)
  refine c_cond rfl (fun h11 => ?_) (fun h11 => ?_)
  · -- (k : Int) < ((l.length : Nat) : Int)
    refine wp_skip ?_
    refine t_norm (hK9 _ _ ?_)
    refine wp_seq_k fun K12 hK12 => ?_
    refine wp_block ?_
    refine wp_seq_k fun K13 hK13 => ?_
    refine c_region ?_
    refine s_op (o_move (v := v) e4_0 ?_)
    refine s_op (o_move (v := (.int .i64 (k : Int))) e4_5 ?_)
    obtain ⟨x17, hx18⟩ : ∃ x_, l[((k : Int)).toNat]? = some x_ := get_some (by omega)
    refine s_op (o_index1 Try.underlying54 ti3 rfl hv rfl (by omega) hx18 fun b14 o15 hc16 => ?_)
    refine s_op (o_load1 (v := (.int .i64 x17)) Try.underlying3 rfl rfl hH7 (seg_sub 0 rfl) hc16 ?_)
    refine s_op (o_move (v := (.int .i64 n)) e4_1 ?_)
    refine s_op (o_eql (a := x17) (b := n) rfl rfl ?_)
    refine s_nil ?_
    refine t_norm (hK13 _ _ ?_)
    refine c_cond rfl (fun h19 => ?_) (fun h19 => ?_)
    · -- x17 = n
      refine wp_seq_k fun K20 hK20 => ?_
      refine c_region ?_
      refine s_op (o_assign (v := (.bool true)) rfl ?_)
      refine s_nil ?_
      refine t_norm (hK20 _ _ ?_)
      refine wp_ret ?_
      refine b_ret (t_ret (t_ret (b_ret (t_ret (c_ret1 Try.results34  (v := (.bool true)) rfl ?_)))))
      exact ⟨by rw [decide_eq_true (h19 ▸ List.mem_of_getElem? hx18)], hH7⟩
    · -- not: x17 = n
      refine wp_skip ?_
      refine b_norm ?_
      refine t_norm (hK12 _ _ ?_)
      refine c_region ?_
      refine s_op (o_move (v := (.int .i64 (k : Int))) e4_5 ?_)
      refine s_op (o_add (a := (k : Int)) (b := 1) rfl rfl (w64 (by omega) (by omega)) ?_)
      refine s_op (o_assign (v := (.int .i64 ((k : Int) + 1))) rfl ?_)
      refine s_nil ?_
      refine t_norm ⟨l.length - (k + 1), _, rfl, ?_, ?_⟩
      · omega
      · exact ⟨(k + 1), rfl, hH7, (by omega), (by rw [take_succ_of (show l[k]? = some _ from hx18)]; exact fun g => (List.mem_append.1 g).elim hn (fun g => h19 (List.mem_singleton.1 g).symm)), e4_0, e4_1, rfl⟩
  · -- not: (k : Int) < ((l.length : Nat) : Int)
    refine wp_exit ?_
    refine t_exit (t_exit (x_in (?_)))
    refine t_norm (hK2 _ _ ?_)
    refine wp_seq_k fun K21 hK21 => ?_
    refine c_region ?_
    refine s_op (o_assign (v := (.bool false)) rfl ?_)
    refine s_nil ?_
    refine t_norm (hK21 _ _ ?_)
    refine wp_ret ?_
    refine c_ret1 Try.results34  (v := (.bool false)) rfl ?_
    have e : k = l.length := by omega
    rw [e, List.take_of_length_le (Nat.le_refl _)] at hn
    exact ⟨by rw [decide_eq_false hn], hH7⟩
set_option maxHeartbeats 4000000 in
theorem with_c {E w : World} {R : List Hp} (hH : Has E w [R]) {v : Value} {l : List Int} (hv : Ints R v l) (hl : l.length ≤ 400000) (n : Int) (inn : Bool) :
    Calls Try.prog 42 #[v, (.int .i64 n), (.bool inn)] w fun e w' => ∃ v' hs', e = .returned v' ∧ Own 3 1 v' (withS n (!inn) l).length ((withS n (!inn) l).map iV) hs' ∧ Has E w' [hs', R] := by
  have hn_ := hv.le
  refine c_enter (args := [v, (.int .i64 n), (.bool inn)]) Try.func42 rfl Try.ntmps42 (by simp) ?_
  refine wp_seq_k fun K1 hK1 => ?_
  refine c_region ?_
  refine s_op (o_assign (v := (.slice none 0 0)) rfl ?_)
  refine s_nil ?_
  refine t_norm (hK1 _ _ ?_)
  refine wp_seq_k fun K2 hK2 => ?_
  refine c_region ?_
  refine s_op (o_assign (v := (.slice none 0 0)) rfl ?_)
  refine s_nil ?_
  refine t_norm (hK2 _ _ ?_)
  refine wp_seq_k fun K3 hK3 => ?_
  refine c_region ?_
  refine s_op (o_move (v := (.bool inn)) rfl ?_)
  refine s_op (o_not rfl ?_)
  refine s_op (o_assign (v := (.bool (!inn))) rfl ?_)
  refine s_nil ?_
  refine t_norm (hK3 _ _ ?_)
  refine wp_seq_k fun K4 hK4 => ?_
  refine wp_seq_k fun K5 hK5 => ?_
  refine c_region ?_
  refine s_op (o_assign (v := (.int .i64 0)) rfl ?_)
  refine s_nil ?_
  refine t_norm (hK5 _ _ ?_)
  refine wp_block ?_
  let I7 : Nat → (Nat → Value) → World → Prop := fun n__ r__ w__ => ∃ (k : Nat) (d : Bool) (va : Value) (ha : List Hp) (acc : List Int), n__ = l.length - k ∧ Has E w__ [ha, R] ∧ (k ≤ l.length) ∧ (Own 3 1 va acc.length (acc.map iV) ha) ∧ (acc.length ≤ 2 * k) ∧ (withS n (!inn) l = acc ++ withS n d (l.drop k)) ∧ r__ 0 = v ∧ r__ 1 = (.int .i64 n) ∧ r__ 2 = (.bool inn) ∧ r__ 6 = (.slice none 0 0) ∧ r__ 7 = va ∧ r__ 8 = (.bool d) ∧ r__ 9 = (.int .i64 (k : Int))
  have hH8 : Has E w [[], R] := (Has.nil hH).first 2 rfl
  refine c_loop I7 _ ⟨0, (!inn), (.slice none 0 0), [], [], rfl, hH8, Nat.zero_le _, Own.nil 3 1, (by simp), (by simp), rfl, rfl, rfl, rfl, rfl, rfl, rfl⟩ ?_
  rintro n_ r11 w9 ⟨k, d, va, ha, acc, rfl, hH10, hk, hoa, hc, hw, e6_0, e6_1, e6_2, e6_6, e6_7, e6_8, e6_9⟩
  refine wp_seq_k fun K12 hK12 => ?_
  refine wp_seq_k fun K13 hK13 => ?_
  refine c_region ?_
  refine s_op (o_move (v := (.int .i64 (k : Int))) e6_9 ?_)
  refine s_op (o_move (v := v) e6_0 ?_)
  refine s_op (o_lenS Try.underlying54 rfl hv ?_)
  refine s_op (o_lss (a := (k : Int)) (b := ((l.length : Nat) : Int)) rfl rfl ?_)
  refine s_nil ?_
  refine t_norm (hK13 _ _ ?_)
  refine c_cond rfl (fun h14 => ?_) (fun h14 => ?_)
  · -- (k : Int) < ((l.length : Nat) : Int)
    obtain ⟨xx, hxx⟩ : ∃ x_, l[((k : Int)).toNat]? = some x_ := get_some (by omega)
    refine wp_skip ?_
    refine t_norm (hK12 _ _ ?_)
    refine wp_seq_k fun K15 hK15 => ?_
    refine wp_block ?_
    refine wp_seq_k fun K16 hK16 => ?_
    let J18 : (Nat → Value) → World → Prop := fun r__ w__ => ∃ (d2 : Bool) (vb : Value) (hb : List Hp) (ac2 : List Int), Has E w__ [hb, R] ∧ (Own 3 1 vb ac2.length (ac2.map iV) hb) ∧ (ac2.length ≤ 2 * k + 1) ∧ (d2 = (d || decide (n ≤ xx))) ∧ (ac2 = acc ++ (if d = false ∧ n ≤ xx then [n] else [])) ∧ r__ 0 = v ∧ r__ 1 = (.int .i64 n) ∧ r__ 2 = (.bool inn) ∧ r__ 6 = (.slice none 0 0) ∧ r__ 7 = vb ∧ r__ 8 = (.bool d2) ∧ r__ 9 = (.int .i64 (k : Int)) ∧ r__ 15 = (.bool (decide ((k : Int) < ((l.length : Nat) : Int))))
    have hJ19 : ∀ r w, J18 r w → K16 (Go.Q.fr 52 r) w := by
      rintro r22 w20 ⟨d2, vb, hb, ac2, hH21, hob, hc2, hd2, hac2, e17_0, e17_1, e17_2, e17_6, e17_7, e17_8, e17_9, e17_15⟩
      refine hK16 _ _ ?_
      refine wp_seq_k fun K23 hK23 => ?_
      refine c_region ?_
      refine s_op (o_move (v := v) e17_0 ?_)
      refine s_op (o_move (v := (.int .i64 (k : Int))) e17_9 ?_)
      refine s_op (o_index1 Try.underlying54 ti3 rfl hv rfl (by omega) hxx fun b24 o25 hc26 => ?_)
      refine s_op (o_load1 (v := (.int .i64 xx)) Try.underlying3 rfl rfl hH21 (seg_sub 1 rfl) hc26 ?_)
      refine s_op (o_move (v := (.int .i64 n)) e17_1 ?_)
      refine s_op (o_neq (a := xx) (b := n) rfl rfl ?_)
      refine s_nil ?_
      refine t_norm (hK23 _ _ ?_)
      refine c_cond rfl (fun h27 => ?_) (fun h27 => ?_)
      · -- xx ≠ n
        refine c_region ?_
        refine s_op (o_move (v := vb) e17_7 ?_)
        refine s_op (o_move (v := v) e17_0 ?_)
        refine s_op (o_move (v := (.int .i64 (k : Int))) e17_9 ?_)
        refine s_op (o_index1 Try.underlying54 ti3 rfl hv rfl (by omega) hxx fun b28 o29 hc30 => ?_)
        refine s_op (o_load1 (v := (.int .i64 xx)) Try.underlying3 rfl rfl hH21 (seg_sub 1 rfl) hc30 ?_)
        refine s_op (o_buildSlice (ps := #[(0, (.int .i64 xx))]) (cells := #[(.int .i64 xx)]) Try.underlying54 ti3 (by decide) (parts1 rfl) (by kernel_rfl) hH21 fun b31 w32 hH33 => ?_)
        refine s_op (o_append Try.underlying54 ti3 rfl (by decide) rfl hob rfl (sl_lit (f := iV) (l := [xx]) rfl rfl (by simp)) (hH33.front 1 rfl) (seg_sub 0 rfl) (one_iV _) (by simp; omega) (by simp; omega) fun v34 s35 w37 ho36 hH38 => ?_)
        have ho36 : Own 3 1 v34 (ac2 ++ [xx]).length ((ac2 ++ [xx]).map iV) s35 := ho36.app
        refine s_op (o_assign (v := v34) rfl ?_)
        refine s_nil ?_
        refine b_norm ?_
        refine t_norm (hK15 _ _ ?_)
        refine c_region ?_
        refine s_op (o_move (v := (.int .i64 (k : Int))) e17_9 ?_)
        refine s_op (o_add (a := (k : Int)) (b := 1) rfl rfl (w64 (by omega) (by omega)) ?_)
        refine s_op (o_assign (v := (.int .i64 ((k : Int) + 1))) rfl ?_)
        refine s_nil ?_
        have hH39 : Has E w37 [s35, R] := ((hH38.front 2 rfl).front 1 rfl).first 2 rfl
        refine t_norm ⟨l.length - (k + 1), _, rfl, ?_, ?_⟩
        · omega
        · exact ⟨(k + 1), d2, v34, s35, (ac2 ++ [xx]), rfl, hH39, (by omega), (ho36), (by first | omega | (simp only [List.length_append, List.length_cons, List.length_nil]; omega)), (by have g_ := with_step hw (show l[k]? = some xx from hxx); rw [hd2, hac2]; rw [if_pos h27] at g_; simpa [List.append_assoc] using g_), e17_0, e17_1, e17_2, e17_6, rfl, e17_8, rfl⟩
      · -- not: xx ≠ n
        refine wp_skip ?_
        refine b_norm ?_
        refine t_norm (hK15 _ _ ?_)
        refine c_region ?_
        refine s_op (o_move (v := (.int .i64 (k : Int))) e17_9 ?_)
        refine s_op (o_add (a := (k : Int)) (b := 1) rfl rfl (w64 (by omega) (by omega)) ?_)
        refine s_op (o_assign (v := (.int .i64 ((k : Int) + 1))) rfl ?_)
        refine s_nil ?_
        refine t_norm ⟨l.length - (k + 1), _, rfl, ?_, ?_⟩
        · omega
        · exact ⟨(k + 1), d2, vb, hb, ac2, rfl, hH21, (by omega), (hob), (by first | omega | (simp only [List.length_append, List.length_cons, List.length_nil]; omega)), (by have g_ := with_step hw (show l[k]? = some xx from hxx); rw [hd2, hac2]; rw [if_neg h27] at g_; simpa [List.append_assoc] using g_), e17_0, e17_1, e17_2, e17_6, e17_7, e17_8, rfl⟩
    refine wp_seq_k fun K40 hK40 => ?_
    refine c_region ?_
    refine s_op (o_move (v := (.bool d)) e6_8 ?_)
    refine s_op (o_not rfl ?_)
    refine s_op (o_move (v := (.bool (!d))) rfl ?_)
    rcases Bool.eq_false_or_eq_true (!d) with h41 | h41
    · -- !d
      refine s_on 20 rfl (congrArg Value.bool h41) (o_move (v := v) e6_0 ?_)
      refine s_on 20 rfl (congrArg Value.bool h41) (o_move (v := (.int .i64 (k : Int))) e6_9 ?_)
      refine s_on 20 rfl (congrArg Value.bool h41) (o_index1 Try.underlying54 ti3 rfl hv rfl (by omega) hxx fun b42 o43 hc44 => ?_)
      refine s_on 20 rfl (congrArg Value.bool h41) (o_load1 (v := (.int .i64 xx)) Try.underlying3 rfl rfl hH10 (seg_sub 1 rfl) hc44 ?_)
      refine s_on 20 rfl (congrArg Value.bool h41) (o_move (v := (.int .i64 n)) e6_1 ?_)
      refine s_on 20 rfl (congrArg Value.bool h41) (o_geq (a := xx) (b := n) rfl rfl ?_)
      refine s_op (o_pick_t (u := (.bool (decide (n ≤ xx)))) ((rfl : _ = _).trans (congrArg Value.bool h41)) rfl ?_)
      refine s_nil ?_
      refine t_norm (hK40 _ _ ?_)
      refine c_cond rfl (fun h45 => ?_) (fun h45 => ?_)
      · -- n ≤ xx
        refine wp_seq_k fun K46 hK46 => ?_
        refine c_region ?_
        refine s_op (o_move (v := va) e6_7 ?_)
        refine s_op (o_move (v := (.int .i64 n)) e6_1 ?_)
        refine s_op (o_buildSlice (ps := #[(0, (.int .i64 n))]) (cells := #[(.int .i64 n)]) Try.underlying54 ti3 (by decide) (parts1 rfl) (by kernel_rfl) hH10 fun b47 w48 hH49 => ?_)
        refine s_op (o_append Try.underlying54 ti3 rfl (by decide) rfl hoa rfl (sl_lit (f := iV) (l := [n]) rfl rfl (by simp)) (hH49.front 1 rfl) (seg_sub 0 rfl) (one_iV _) (by simp; omega) (by simp; omega) fun v50 s51 w53 ho52 hH54 => ?_)
        have ho52 : Own 3 1 v50 (acc ++ [n]).length ((acc ++ [n]).map iV) s51 := ho52.app
        refine s_op (o_assign (v := v50) rfl ?_)
        refine s_nil ?_
        refine t_norm (hK46 _ _ ?_)
        refine c_region ?_
        refine s_op (o_assign (v := (.bool true)) rfl ?_)
        refine s_nil ?_
        have hH55 : Has E w53 [s51, R] := ((hH54.front 2 rfl).front 1 rfl).first 2 rfl
        refine t_norm (hJ19 _ _ ⟨true, v50, s51, (acc ++ [n]), hH55, (ho52), (by first | omega | (simp only [List.length_append, List.length_cons, List.length_nil]; omega)), (by simp_all), (by simp_all), e6_0, e6_1, e6_2, e6_6, rfl, rfl, e6_9, rfl⟩)
      · -- not: n ≤ xx
        refine wp_skip ?_
        refine t_norm (hJ19 _ _ ⟨d, va, ha, acc, hH10, (hoa), (by first | omega | (simp only [List.length_append, List.length_cons, List.length_nil]; omega)), (by simp_all), (by simp_all), e6_0, e6_1, e6_2, e6_6, e6_7, e6_8, e6_9, rfl⟩)
    · -- not: !d
      refine s_off (b' := false) 20 rfl (congrArg Value.bool h41) rfl ?_
      refine s_off (b' := false) 20 rfl (congrArg Value.bool h41) rfl ?_
      refine s_off (b' := false) 20 rfl (congrArg Value.bool h41) rfl ?_
      refine s_off (b' := false) 20 rfl (congrArg Value.bool h41) rfl ?_
      refine s_off (b' := false) 20 rfl (congrArg Value.bool h41) rfl ?_
      refine s_off (b' := false) 20 rfl (congrArg Value.bool h41) rfl ?_
      refine s_op (o_pick_f (u := (.bool false)) ((rfl : _ = _).trans (congrArg Value.bool h41)) rfl ?_)
      refine s_nil ?_
      refine t_norm (hK40 _ _ ?_)
      refine c_false rfl rfl ?_
      refine wp_skip ?_
      refine t_norm (hJ19 _ _ ⟨d, va, ha, acc, hH10, (hoa), (by first | omega | (simp only [List.length_append, List.length_cons, List.length_nil]; omega)), (by simp_all), (by simp_all), e6_0, e6_1, e6_2, e6_6, e6_7, e6_8, e6_9, rfl⟩)
  · -- not: (k : Int) < ((l.length : Nat) : Int)
    refine wp_exit ?_
    refine t_exit (t_exit (x_in (?_)))
    refine t_norm (hK4 _ _ ?_)
    refine wp_seq_k fun K56 hK56 => ?_
    refine wp_seq_k fun K57 hK57 => ?_
    refine c_region ?_
    refine s_op (o_move (v := (.bool d)) e6_8 ?_)
    refine s_op (o_not rfl ?_)
    refine s_nil ?_
    refine t_norm (hK57 _ _ ?_)
    refine c_condb rfl (fun h58 => ?_) (fun h58 => ?_)
    · -- !d
      have h58_n : d = false := by simpa using h58
      refine c_region ?_
      refine s_op (o_move (v := va) e6_7 ?_)
      refine s_op (o_move (v := (.int .i64 n)) e6_1 ?_)
      refine s_op (o_buildSlice (ps := #[(0, (.int .i64 n))]) (cells := #[(.int .i64 n)]) Try.underlying54 ti3 (by decide) (parts1 rfl) (by kernel_rfl) hH10 fun b59 w60 hH61 => ?_)
      refine s_op (o_append Try.underlying54 ti3 rfl (by decide) rfl hoa rfl (sl_lit (f := iV) (l := [n]) rfl rfl (by simp)) (hH61.front 1 rfl) (seg_sub 0 rfl) (one_iV _) (by simp; omega) (by simp; omega) fun v62 s63 w65 ho64 hH66 => ?_)
      have ho64 : Own 3 1 v62 (acc ++ [n]).length ((acc ++ [n]).map iV) s63 := ho64.app
      refine s_op (o_assign (v := v62) rfl ?_)
      refine s_nil ?_
      refine t_norm (hK56 _ _ ?_)
      refine wp_seq_k fun K67 hK67 => ?_
      refine c_region ?_
      refine s_op (o_move (v := v62) rfl ?_)
      refine s_op (o_assign (v := v62) rfl ?_)
      refine s_nil ?_
      refine t_norm (hK67 _ _ ?_)
      refine wp_ret ?_
      refine c_ret1 Try.results42  (v := v62) rfl ?_
      have hH68 : Has E w65 [s63, R] := ((hH66.front 2 rfl).front 1 rfl).first 2 rfl
      have e : k = l.length := by omega
      rw [e, List.drop_length] at hw
      have hw2 : withS n (!inn) l = acc ++ [n] := by rw [hw, withS]; simp_all
      exact ⟨_, _, rfl, by rw [hw2]; exact ho64, hH68⟩
    · -- not: !d
      have h58_n : d = true := by simpa using h58
      refine wp_skip ?_
      refine t_norm (hK56 _ _ ?_)
      refine wp_seq_k fun K69 hK69 => ?_
      refine c_region ?_
      refine s_op (o_move (v := va) e6_7 ?_)
      refine s_op (o_assign (v := va) rfl ?_)
      refine s_nil ?_
      refine t_norm (hK69 _ _ ?_)
      refine wp_ret ?_
      refine c_ret1 Try.results42  (v := va) rfl ?_
      have e : k = l.length := by omega
      rw [e, List.drop_length] at hw
      have hw2 : withS n (!inn) l = acc := by rw [hw, withS]; simp_all
      exact ⟨_, _, rfl, by rw [hw2]; exact hoa, hH10⟩
set_option maxHeartbeats 4000000 in
theorem lblank_c {E w : World} {R : List Hp} (hH : Has E w [R]) :
    Calls Try.prog 28 #[] w fun e w' => e = .returned (S blankS) ∧ Has E w' [R] := by
  refine c_enter (args := []) Try.func28 rfl Try.ntmps28 (by simp) ?_
  refine wp_seq_k fun K1 hK1 => ?_
  refine c_region ?_
  refine s_op (o_assign (v := (S ([] : List UInt8))) rfl ?_)
  refine s_nil ?_
  refine t_norm (hK1 _ _ ?_)
  refine wp_seq_k fun K2 hK2 => ?_
  refine c_region ?_
  refine s_op (o_make Try.underlying147 ti5 rfl rfl (by omega) (by omega) (by omega) (by omega) hH fun v3 s4 w6 ho5 hH7 => ?_)
  have ho8 : Own 5 1 v3 (List.replicate ((64 : Int)).toNat (0 : UInt8)).length ((List.replicate ((64 : Int)).toNat (0 : UInt8)).map bV) s4 := by rw [List.length_replicate, List.map_replicate, ← made_rep]; exact ho5
  obtain ⟨p9, c10, rfl⟩ := (Own.sl ho5).form
  refine s_op (o_bstr Try.underlying147 Try.underlying5 Try.underlying9 rfl ho8.sl hH7 (seg_sub 0 rfl) ?_)
  refine s_op (o_assign (v := (S (List.replicate ((64 : Int)).toNat (0 : UInt8)))) rfl ?_)
  refine s_nil ?_
  refine t_norm (hK2 _ _ ?_)
  refine wp_ret ?_
  refine c_ret1 Try.results28  (v := (S (List.replicate ((64 : Int)).toNat (0 : UInt8)))) rfl ?_
  have hH11 : Has E w6 [R] := (hH7.front 1 rfl).first 1 rfl
  exact ⟨rfl, hH11⟩
set_option maxHeartbeats 4000000 in
theorem lfill_c {E w : World} {R : List Hp} (hH : Has E w [R]) (s : Bs) (hs : s.length ≤ 64) :
    Calls Try.prog 30 #[(S s)] w fun e w' => e = .returned (S (fillS s)) ∧ Has E w' [R] := by
  have hb64 := blank_len
  refine c_enter (args := [(S s)]) Try.func30 rfl Try.ntmps30 (by simp) ?_
  refine wp_seq_k fun K1 hK1 => ?_
  refine c_region ?_
  refine s_op (o_assign (v := (S ([] : List UInt8))) rfl ?_)
  refine s_nil ?_
  refine t_norm (hK1 _ _ ?_)
  refine wp_seq_k fun K2 hK2 => ?_
  refine c_region ?_
  refine s_op (o_move (v := (S s)) rfl ?_)
  refine s_op (o_callf (vs := #[]) ca28 rfl (args0) (lblank_c hH.all) ?_)
  rintro _ w5 ⟨rfl, hX3⟩
  refine ⟨_, rfl, ?_⟩
  have hH4 := hX3.of_all
  refine s_op (o_move (v := (S s)) rfl ?_)
  refine s_op (o_slen Try.underlying9 rfl ?_)
  refine s_op (o_ssl_l Try.underlying9 rfl rfl (by omega) (by rw [blank_len]; omega) ?_)
  refine s_op (o_sadd rfl rfl (by rw [List.length_drop, blank_len]; omega) ?_)
  refine s_op (o_assign (v := (S (s ++ (blankS.drop ((s.length : Int)).toNat)))) rfl ?_)
  refine s_nil ?_
  refine t_norm (hK2 _ _ ?_)
  refine wp_ret ?_
  refine c_ret1 Try.results30  (v := (S (s ++ (blankS.drop ((s.length : Int)).toNat)))) rfl ?_
  exact ⟨rfl, hH4⟩
set_option maxHeartbeats 4000000 in
theorem awake5_c {E w : World} {R : List Hp} (hH : Has E w [R]) :
    Calls Try.prog 27 #[] w fun e w' => e = .returned (.bool true) ∧ Has E w' [R] := by
  refine c_enter (args := []) Try.func27 rfl Try.ntmps27 (by simp) ?_
  refine wp_seq_k fun K1 hK1 => ?_
  refine c_region ?_
  refine s_op (o_assign (v := (.bool false)) rfl ?_)
  refine s_nil ?_
  refine t_norm (hK1 _ _ ?_)
  refine wp_seq_k fun K2 hK2 => ?_
  refine c_region ?_
  refine s_op (o_callf (vs := #[(.pointer none), (.int .i64 5)]) ca23 rfl (args2 rfl rfl) (new_nil hH.all (n := 5) (by decide)) ?_)
  rintro _ w9 ⟨db3, pb4, sg5, rfl, hd6, hX7⟩
  refine ⟨_, rfl, ?_⟩
  have hH8 : Has E w9 [sg5, [Hp.one pb4 (.cells #[(.bool (Pw.mk false false 0 0).off), (.bool (Pw.mk false false 0 0).armed), (.int .i64 (Pw.mk false false 0 0).left), (.int .i64 (Pw.mk false false 0 0).uses)] 101 (0, 0))], R] := hX7.of_all2
  refine s_op (o_assign (v := (.pointer (some ⟨db3, 0, none⟩))) rfl ?_)
  refine s_nil ?_
  refine t_norm (hK2 _ _ ?_)
  refine wp_seq_k fun K10 hK10 => ?_
  refine c_region ?_
  refine s_op (o_move (v := (.pointer (some ⟨db3, 0, none⟩))) rfl ?_)
  refine s_op (o_buildSlice (ps := #[(0, (S [97]))]) (cells := #[(S [97])]) Try.underlying53 ti9 (by decide) (parts1 rfl) (by kernel_rfl) hH8 fun b11 w12 hH13 => ?_)
  refine s_op (o_callf (vs := #[(.pointer (some ⟨db3, 0, none⟩)), (.int .i64 1), (.slice (some ⟨b11, 0, none⟩) 1 1)]) ca29 rfl (args3 rfl rfl rfl) (write_d (p := (Pw.mk false false 0 0)) (la := (List.replicate 5 blankS)) (lo := ([] : List (Int × Bs))) ((hH13.front 2 rfl).front 2 rfl).all2 hd6 (by unfold PwOk; decide +kernel) (by decide +kernel) 1 (l := [[97]]) ((sl_lit (f := sV) (l := [[97]]) rfl rfl (by simp)).mono (seg_sub 0 rfl)) (by decide) (by decide)) ?_)
  rintro _ w18 ⟨sg14, rfl, hd15, hX16⟩
  refine ⟨_, rfl, ?_⟩
  have hH17 : Has E w18 [sg14, [Hp.one pb4 (.cells #[(.bool (useS (Pw.mk false false 0 0)).off), (.bool (useS (Pw.mk false false 0 0)).armed), (.int .i64 (useS (Pw.mk false false 0 0)).left), (.int .i64 (useS (Pw.mk false false 0 0)).uses)] 101 (0, 0))], [Hp.one b11 (.cells #[(S [97])] 9 (0, 0))], R] := hX16.of_all2
  refine s_op (o_assign (v := (.int .i64 (writeE (Pw.mk false false 0 0) ((List.replicate 5 blankS).length) 1 [[97]].flatten))) rfl ?_)
  refine s_nil ?_
  refine t_norm (hK10 _ _ ?_)
  refine wp_seq_k fun K19 hK19 => ?_
  refine c_region ?_
  refine s_op (o_move (v := (.pointer (some ⟨db3, 0, none⟩))) rfl ?_)
  refine s_op (o_buildSlice (ps := #[(0, (S [98]))]) (cells := #[(S [98])]) Try.underlying53 ti9 (by decide) (parts1 rfl) (by kernel_rfl) hH17 fun b20 w21 hH22 => ?_)
  refine s_op (o_callf (vs := #[(.pointer (some ⟨db3, 0, none⟩)), (.int .i64 2), (.slice (some ⟨b20, 0, none⟩) 1 1)]) ca29 rfl (args3 rfl rfl rfl) (write_d (p := (useS (Pw.mk false false 0 0))) (la := (List.replicate 5 blankS)) (lo := (writeS (Pw.mk false false 0 0) ((List.replicate 5 blankS).length) ([] : List (Int × Bs)) 1 [[97]].flatten)) ((hH22.front 2 rfl).front 2 rfl).all2 hd15 (by unfold PwOk; decide +kernel) (by decide +kernel) 2 (l := [[98]]) ((sl_lit (f := sV) (l := [[98]]) rfl rfl (by simp)).mono (seg_sub 0 rfl)) (by decide) (by decide)) ?_)
  rintro _ w27 ⟨sg23, rfl, hd24, hX25⟩
  refine ⟨_, rfl, ?_⟩
  have hH26 : Has E w27 [sg23, [Hp.one pb4 (.cells #[(.bool (useS (useS (Pw.mk false false 0 0))).off), (.bool (useS (useS (Pw.mk false false 0 0))).armed), (.int .i64 (useS (useS (Pw.mk false false 0 0))).left), (.int .i64 (useS (useS (Pw.mk false false 0 0))).uses)] 101 (0, 0))], [Hp.one b20 (.cells #[(S [98])] 9 (0, 0))], [Hp.one b11 (.cells #[(S [97])] 9 (0, 0))], R] := hX25.of_all2
  refine s_op (o_assign (v := (.int .i64 (writeE (useS (Pw.mk false false 0 0)) ((List.replicate 5 blankS).length) 2 [[98]].flatten))) rfl ?_)
  refine s_nil ?_
  refine t_norm (hK19 _ _ ?_)
  refine wp_seq_k fun K28 hK28 => ?_
  refine c_region ?_
  refine s_op (o_move (v := (.pointer (some ⟨db3, 0, none⟩))) rfl ?_)
  refine s_op (o_buildSlice (ps := #[(0, (.int .i64 2))]) (cells := #[(.int .i64 2)]) Try.underlying54 ti3 (by decide) (parts1 rfl) (by kernel_rfl) hH26 fun b29 w30 hH31 => ?_)
  refine s_op (o_callf (vs := #[(.pointer (some ⟨db3, 0, none⟩)), (.slice (some ⟨b29, 0, none⟩) 1 1)]) ca32 rfl (args2 rfl rfl) (crash_d (p := (useS (useS (Pw.mk false false 0 0)))) (la := (List.replicate 5 blankS)) (lo := (writeS (useS (Pw.mk false false 0 0)) ((List.replicate 5 blankS).length) (writeS (Pw.mk false false 0 0) ((List.replicate 5 blankS).length) ([] : List (Int × Bs)) 1 [[97]].flatten) 2 [[98]].flatten)) ((hH31.front 2 rfl).front 2 rfl).all2 hd24 (by unfold LoOk inS; decide +kernel) (keep := [2]) ((sl_lit (f := iV) (l := [2]) rfl rfl (by simp)).mono (seg_sub 0 rfl))) ?_)
  rintro _ w36 ⟨sg32, rfl, hd33, hX34⟩
  refine ⟨_, rfl, ?_⟩
  have hH35 : Has E w36 [sg32, [Hp.one pb4 (.cells #[(.bool (backS (useS (useS (Pw.mk false false 0 0)))).off), (.bool (backS (useS (useS (Pw.mk false false 0 0)))).armed), (.int .i64 (backS (useS (useS (Pw.mk false false 0 0)))).left), (.int .i64 (backS (useS (useS (Pw.mk false false 0 0)))).uses)] 101 (0, 0))], [Hp.one b29 (.cells #[(.int .i64 2)] 3 (0, 0))], [Hp.one b20 (.cells #[(S [98])] 9 (0, 0))], [Hp.one b11 (.cells #[(S [97])] 9 (0, 0))], R] := hX34.of_all2
  refine s_nil ?_
  refine t_norm (hK28 _ _ ?_)
  refine wp_seq_k fun K37 hK37 => ?_
  refine c_region ?_
  refine s_op (o_move (v := (.pointer (some ⟨db3, 0, none⟩))) rfl ?_)
  refine s_op (o_callf (vs := #[(.pointer (some ⟨db3, 0, none⟩)), (.int .i64 1)]) ca33 rfl (args2 rfl rfl) (read_d (p := (backS (useS (useS (Pw.mk false false 0 0))))) (la := (settleS (writeS (useS (Pw.mk false false 0 0)) ((List.replicate 5 blankS).length) (writeS (Pw.mk false false 0 0) ((List.replicate 5 blankS).length) ([] : List (Int × Bs)) 1 [[97]].flatten) 2 [[98]].flatten) (List.replicate 5 blankS) [2])) (lo := ([] : List (Int × Bs))) ((hH35.front 1 rfl).front 1 rfl).all2 hd33 1) ?_)
  rintro _ w40 ⟨rfl, hX38⟩
  refine ⟨_, rfl, ?_⟩
  have hH39 : Has E w40 [sg32, [Hp.one pb4 (.cells #[(.bool (backS (useS (useS (Pw.mk false false 0 0)))).off), (.bool (backS (useS (useS (Pw.mk false false 0 0)))).armed), (.int .i64 (backS (useS (useS (Pw.mk false false 0 0)))).left), (.int .i64 (backS (useS (useS (Pw.mk false false 0 0)))).uses)] 101 (0, 0))], [Hp.one b29 (.cells #[(.int .i64 2)] 3 (0, 0))], [Hp.one b20 (.cells #[(S [98])] 9 (0, 0))], [Hp.one b11 (.cells #[(S [97])] 9 (0, 0))], R] := hX38.of_all2
  refine s_op (o_move (v := (.tuple #[(S (readS (backS (useS (useS (Pw.mk false false 0 0)))) (settleS (writeS (useS (Pw.mk false false 0 0)) ((List.replicate 5 blankS).length) (writeS (Pw.mk false false 0 0) ((List.replicate 5 blankS).length) ([] : List (Int × Bs)) 1 [[97]].flatten) 2 [[98]].flatten) (List.replicate 5 blankS) [2]) ([] : List (Int × Bs)) 1)), (.int .i64 (readE (backS (useS (useS (Pw.mk false false 0 0)))) (settleS (writeS (useS (Pw.mk false false 0 0)) ((List.replicate 5 blankS).length) (writeS (Pw.mk false false 0 0) ((List.replicate 5 blankS).length) ([] : List (Int × Bs)) 1 [[97]].flatten) 2 [[98]].flatten) (List.replicate 5 blankS) [2]) 1))])) rfl ?_)
  refine s_op (o_extract (v := (S (readS (backS (useS (useS (Pw.mk false false 0 0)))) (settleS (writeS (useS (Pw.mk false false 0 0)) ((List.replicate 5 blankS).length) (writeS (Pw.mk false false 0 0) ((List.replicate 5 blankS).length) ([] : List (Int × Bs)) 1 [[97]].flatten) 2 [[98]].flatten) (List.replicate 5 blankS) [2]) ([] : List (Int × Bs)) 1))) rfl rfl ?_)
  refine s_op (o_extract (v := (.int .i64 (readE (backS (useS (useS (Pw.mk false false 0 0)))) (settleS (writeS (useS (Pw.mk false false 0 0)) ((List.replicate 5 blankS).length) (writeS (Pw.mk false false 0 0) ((List.replicate 5 blankS).length) ([] : List (Int × Bs)) 1 [[97]].flatten) 2 [[98]].flatten) (List.replicate 5 blankS) [2]) 1))) rfl rfl ?_)
  refine s_op (o_assign (v := (S (readS (backS (useS (useS (Pw.mk false false 0 0)))) (settleS (writeS (useS (Pw.mk false false 0 0)) ((List.replicate 5 blankS).length) (writeS (Pw.mk false false 0 0) ((List.replicate 5 blankS).length) ([] : List (Int × Bs)) 1 [[97]].flatten) 2 [[98]].flatten) (List.replicate 5 blankS) [2]) ([] : List (Int × Bs)) 1))) rfl ?_)
  refine s_op (o_assign (v := (.int .i64 (readE (backS (useS (useS (Pw.mk false false 0 0)))) (settleS (writeS (useS (Pw.mk false false 0 0)) ((List.replicate 5 blankS).length) (writeS (Pw.mk false false 0 0) ((List.replicate 5 blankS).length) ([] : List (Int × Bs)) 1 [[97]].flatten) 2 [[98]].flatten) (List.replicate 5 blankS) [2]) 1))) rfl ?_)
  refine s_nil ?_
  refine t_norm (hK37 _ _ ?_)
  refine wp_seq_k fun K41 hK41 => ?_
  refine c_region ?_
  refine s_op (o_move (v := (.pointer (some ⟨db3, 0, none⟩))) rfl ?_)
  refine s_op (o_callf (vs := #[(.pointer (some ⟨db3, 0, none⟩)), (.int .i64 2)]) ca33 rfl (args2 rfl rfl) (read_d (p := (backS (useS (useS (Pw.mk false false 0 0))))) (la := (settleS (writeS (useS (Pw.mk false false 0 0)) ((List.replicate 5 blankS).length) (writeS (Pw.mk false false 0 0) ((List.replicate 5 blankS).length) ([] : List (Int × Bs)) 1 [[97]].flatten) 2 [[98]].flatten) (List.replicate 5 blankS) [2])) (lo := ([] : List (Int × Bs))) ((hH39.front 1 rfl).front 1 rfl).all2 hd33 2) ?_)
  rintro _ w44 ⟨rfl, hX42⟩
  refine ⟨_, rfl, ?_⟩
  have hH43 : Has E w44 [sg32, [Hp.one pb4 (.cells #[(.bool (backS (useS (useS (Pw.mk false false 0 0)))).off), (.bool (backS (useS (useS (Pw.mk false false 0 0)))).armed), (.int .i64 (backS (useS (useS (Pw.mk false false 0 0)))).left), (.int .i64 (backS (useS (useS (Pw.mk false false 0 0)))).uses)] 101 (0, 0))], [Hp.one b29 (.cells #[(.int .i64 2)] 3 (0, 0))], [Hp.one b20 (.cells #[(S [98])] 9 (0, 0))], [Hp.one b11 (.cells #[(S [97])] 9 (0, 0))], R] := hX42.of_all2
  refine s_op (o_move (v := (.tuple #[(S (readS (backS (useS (useS (Pw.mk false false 0 0)))) (settleS (writeS (useS (Pw.mk false false 0 0)) ((List.replicate 5 blankS).length) (writeS (Pw.mk false false 0 0) ((List.replicate 5 blankS).length) ([] : List (Int × Bs)) 1 [[97]].flatten) 2 [[98]].flatten) (List.replicate 5 blankS) [2]) ([] : List (Int × Bs)) 2)), (.int .i64 (readE (backS (useS (useS (Pw.mk false false 0 0)))) (settleS (writeS (useS (Pw.mk false false 0 0)) ((List.replicate 5 blankS).length) (writeS (Pw.mk false false 0 0) ((List.replicate 5 blankS).length) ([] : List (Int × Bs)) 1 [[97]].flatten) 2 [[98]].flatten) (List.replicate 5 blankS) [2]) 2))])) rfl ?_)
  refine s_op (o_extract (v := (S (readS (backS (useS (useS (Pw.mk false false 0 0)))) (settleS (writeS (useS (Pw.mk false false 0 0)) ((List.replicate 5 blankS).length) (writeS (Pw.mk false false 0 0) ((List.replicate 5 blankS).length) ([] : List (Int × Bs)) 1 [[97]].flatten) 2 [[98]].flatten) (List.replicate 5 blankS) [2]) ([] : List (Int × Bs)) 2))) rfl rfl ?_)
  refine s_op (o_extract (v := (.int .i64 (readE (backS (useS (useS (Pw.mk false false 0 0)))) (settleS (writeS (useS (Pw.mk false false 0 0)) ((List.replicate 5 blankS).length) (writeS (Pw.mk false false 0 0) ((List.replicate 5 blankS).length) ([] : List (Int × Bs)) 1 [[97]].flatten) 2 [[98]].flatten) (List.replicate 5 blankS) [2]) 2))) rfl rfl ?_)
  refine s_op (o_assign (v := (S (readS (backS (useS (useS (Pw.mk false false 0 0)))) (settleS (writeS (useS (Pw.mk false false 0 0)) ((List.replicate 5 blankS).length) (writeS (Pw.mk false false 0 0) ((List.replicate 5 blankS).length) ([] : List (Int × Bs)) 1 [[97]].flatten) 2 [[98]].flatten) (List.replicate 5 blankS) [2]) ([] : List (Int × Bs)) 2))) rfl ?_)
  refine s_op (o_assign (v := (.int .i64 (readE (backS (useS (useS (Pw.mk false false 0 0)))) (settleS (writeS (useS (Pw.mk false false 0 0)) ((List.replicate 5 blankS).length) (writeS (Pw.mk false false 0 0) ((List.replicate 5 blankS).length) ([] : List (Int × Bs)) 1 [[97]].flatten) 2 [[98]].flatten) (List.replicate 5 blankS) [2]) 2))) rfl ?_)
  refine s_nil ?_
  refine t_norm (hK41 _ _ ?_)
  refine wp_seq_k fun K45 hK45 => ?_
  refine c_region ?_
  refine s_op (o_move (v := (.int .i64 (writeE (Pw.mk false false 0 0) ((List.replicate 5 blankS).length) 1 [[97]].flatten))) rfl ?_)
  refine s_op (o_eql (a := writeE (Pw.mk false false 0 0) ((List.replicate 5 blankS).length) 1 [[97]].flatten) (b := 0) rfl rfl ?_)
  refine s_op (o_move (v := (.bool (decide (writeE (Pw.mk false false 0 0) ((List.replicate 5 blankS).length) 1 [[97]].flatten = 0)))) rfl ?_)
  by_cases h46 : writeE (Pw.mk false false 0 0) ((List.replicate 5 blankS).length) 1 [[97]].flatten = 0
  · -- writeE (Pw.mk false false 0 0) ((List.replicate 5 blankS).length) 1 [[97]].flatten = 0
    refine s_on 30 rfl (congrArg Value.bool (decide_eq_true h46)) (o_move (v := (.int .i64 (writeE (useS (Pw.mk false false 0 0)) ((List.replicate 5 blankS).length) 2 [[98]].flatten))) rfl ?_)
    refine s_on 30 rfl (congrArg Value.bool (decide_eq_true h46)) (o_eql (a := writeE (useS (Pw.mk false false 0 0)) ((List.replicate 5 blankS).length) 2 [[98]].flatten) (b := 0) rfl rfl ?_)
    refine s_op (o_pick_t (u := (.bool (decide (writeE (useS (Pw.mk false false 0 0)) ((List.replicate 5 blankS).length) 2 [[98]].flatten = 0)))) ((rfl : _ = _).trans (congrArg Value.bool (decide_eq_true h46))) rfl ?_)
    refine s_op (o_move (v := (.bool (decide (writeE (useS (Pw.mk false false 0 0)) ((List.replicate 5 blankS).length) 2 [[98]].flatten = 0)))) rfl ?_)
    by_cases h47 : writeE (useS (Pw.mk false false 0 0)) ((List.replicate 5 blankS).length) 2 [[98]].flatten = 0
    · -- writeE (useS (Pw.mk false false 0 0)) ((List.replicate 5 blankS).length) 2 [[98]].flatten = 0
      refine s_on 34 rfl (congrArg Value.bool (decide_eq_true h47)) (o_move (v := (.int .i64 (readE (backS (useS (useS (Pw.mk false false 0 0)))) (settleS (writeS (useS (Pw.mk false false 0 0)) ((List.replicate 5 blankS).length) (writeS (Pw.mk false false 0 0) ((List.replicate 5 blankS).length) ([] : List (Int × Bs)) 1 [[97]].flatten) 2 [[98]].flatten) (List.replicate 5 blankS) [2]) 1))) rfl ?_)
      refine s_on 34 rfl (congrArg Value.bool (decide_eq_true h47)) (o_eql (a := readE (backS (useS (useS (Pw.mk false false 0 0)))) (settleS (writeS (useS (Pw.mk false false 0 0)) ((List.replicate 5 blankS).length) (writeS (Pw.mk false false 0 0) ((List.replicate 5 blankS).length) ([] : List (Int × Bs)) 1 [[97]].flatten) 2 [[98]].flatten) (List.replicate 5 blankS) [2]) 1) (b := 0) rfl rfl ?_)
      refine s_op (o_pick_t (u := (.bool (decide (readE (backS (useS (useS (Pw.mk false false 0 0)))) (settleS (writeS (useS (Pw.mk false false 0 0)) ((List.replicate 5 blankS).length) (writeS (Pw.mk false false 0 0) ((List.replicate 5 blankS).length) ([] : List (Int × Bs)) 1 [[97]].flatten) 2 [[98]].flatten) (List.replicate 5 blankS) [2]) 1 = 0)))) ((rfl : _ = _).trans (congrArg Value.bool (decide_eq_true h47))) rfl ?_)
      refine s_op (o_move (v := (.bool (decide (readE (backS (useS (useS (Pw.mk false false 0 0)))) (settleS (writeS (useS (Pw.mk false false 0 0)) ((List.replicate 5 blankS).length) (writeS (Pw.mk false false 0 0) ((List.replicate 5 blankS).length) ([] : List (Int × Bs)) 1 [[97]].flatten) 2 [[98]].flatten) (List.replicate 5 blankS) [2]) 1 = 0)))) rfl ?_)
      by_cases h48 : readE (backS (useS (useS (Pw.mk false false 0 0)))) (settleS (writeS (useS (Pw.mk false false 0 0)) ((List.replicate 5 blankS).length) (writeS (Pw.mk false false 0 0) ((List.replicate 5 blankS).length) ([] : List (Int × Bs)) 1 [[97]].flatten) 2 [[98]].flatten) (List.replicate 5 blankS) [2]) 1 = 0
      · -- readE (backS (useS (useS (Pw.mk false false 0 0)))) (settleS (writeS (useS (Pw.mk false false 0 0)) ((List.replicate 5 blankS).length) (writeS (Pw.mk false false 0 0) ((List.replicate 5 blankS).length) ([] : List (Int × Bs)) 1 [[97]].flatten) 2 [[98]].flatten) (List.replicate 5 blankS) [2]) 1 = 0
        refine s_on 38 rfl (congrArg Value.bool (decide_eq_true h48)) (o_move (v := (S (readS (backS (useS (useS (Pw.mk false false 0 0)))) (settleS (writeS (useS (Pw.mk false false 0 0)) ((List.replicate 5 blankS).length) (writeS (Pw.mk false false 0 0) ((List.replicate 5 blankS).length) ([] : List (Int × Bs)) 1 [[97]].flatten) 2 [[98]].flatten) (List.replicate 5 blankS) [2]) ([] : List (Int × Bs)) 1))) rfl ?_)
        refine s_on 38 rfl (congrArg Value.bool (decide_eq_true h48)) (o_callf (vs := #[]) ca28 rfl (args0) (lblank_c hH43.all) ?_)
        rintro _ w51 ⟨rfl, hX49⟩
        refine ⟨_, rfl, ?_⟩
        have hH50 := hX49.of_all
        refine s_on 38 rfl (congrArg Value.bool (decide_eq_true h48)) (o_seql (a := (readS (backS (useS (useS (Pw.mk false false 0 0)))) (settleS (writeS (useS (Pw.mk false false 0 0)) ((List.replicate 5 blankS).length) (writeS (Pw.mk false false 0 0) ((List.replicate 5 blankS).length) ([] : List (Int × Bs)) 1 [[97]].flatten) 2 [[98]].flatten) (List.replicate 5 blankS) [2]) ([] : List (Int × Bs)) 1)) (b := blankS) rfl rfl ?_)
        refine s_op (o_pick_t (u := (.bool (decide ((readS (backS (useS (useS (Pw.mk false false 0 0)))) (settleS (writeS (useS (Pw.mk false false 0 0)) ((List.replicate 5 blankS).length) (writeS (Pw.mk false false 0 0) ((List.replicate 5 blankS).length) ([] : List (Int × Bs)) 1 [[97]].flatten) 2 [[98]].flatten) (List.replicate 5 blankS) [2]) ([] : List (Int × Bs)) 1) = blankS)))) ((rfl : _ = _).trans (congrArg Value.bool (decide_eq_true h48))) rfl ?_)
        refine s_op (o_move (v := (.bool (decide ((readS (backS (useS (useS (Pw.mk false false 0 0)))) (settleS (writeS (useS (Pw.mk false false 0 0)) ((List.replicate 5 blankS).length) (writeS (Pw.mk false false 0 0) ((List.replicate 5 blankS).length) ([] : List (Int × Bs)) 1 [[97]].flatten) 2 [[98]].flatten) (List.replicate 5 blankS) [2]) ([] : List (Int × Bs)) 1) = blankS)))) rfl ?_)
        by_cases h52 : (readS (backS (useS (useS (Pw.mk false false 0 0)))) (settleS (writeS (useS (Pw.mk false false 0 0)) ((List.replicate 5 blankS).length) (writeS (Pw.mk false false 0 0) ((List.replicate 5 blankS).length) ([] : List (Int × Bs)) 1 [[97]].flatten) 2 [[98]].flatten) (List.replicate 5 blankS) [2]) ([] : List (Int × Bs)) 1) = blankS
        · -- (readS (backS (useS (useS (Pw.mk false false 0 0)))) (settleS (writeS (useS (Pw.mk false false 0 0)) ((List.replicate 5 blankS).length) (writeS (Pw.mk false false 0 0) ((List.replicate 5 blankS).length) ([] : List (Int × Bs)) 1 [[97]].flatten) 2 [[98]].flatten) (List.replicate 5 blankS) [2]) ([] : List (Int × Bs)) 1) = blankS
          refine s_on 43 rfl (congrArg Value.bool (decide_eq_true h52)) (o_move (v := (.int .i64 (readE (backS (useS (useS (Pw.mk false false 0 0)))) (settleS (writeS (useS (Pw.mk false false 0 0)) ((List.replicate 5 blankS).length) (writeS (Pw.mk false false 0 0) ((List.replicate 5 blankS).length) ([] : List (Int × Bs)) 1 [[97]].flatten) 2 [[98]].flatten) (List.replicate 5 blankS) [2]) 2))) rfl ?_)
          refine s_on 43 rfl (congrArg Value.bool (decide_eq_true h52)) (o_eql (a := readE (backS (useS (useS (Pw.mk false false 0 0)))) (settleS (writeS (useS (Pw.mk false false 0 0)) ((List.replicate 5 blankS).length) (writeS (Pw.mk false false 0 0) ((List.replicate 5 blankS).length) ([] : List (Int × Bs)) 1 [[97]].flatten) 2 [[98]].flatten) (List.replicate 5 blankS) [2]) 2) (b := 0) rfl rfl ?_)
          refine s_op (o_pick_t (u := (.bool (decide (readE (backS (useS (useS (Pw.mk false false 0 0)))) (settleS (writeS (useS (Pw.mk false false 0 0)) ((List.replicate 5 blankS).length) (writeS (Pw.mk false false 0 0) ((List.replicate 5 blankS).length) ([] : List (Int × Bs)) 1 [[97]].flatten) 2 [[98]].flatten) (List.replicate 5 blankS) [2]) 2 = 0)))) ((rfl : _ = _).trans (congrArg Value.bool (decide_eq_true h52))) rfl ?_)
          refine s_op (o_move (v := (.bool (decide (readE (backS (useS (useS (Pw.mk false false 0 0)))) (settleS (writeS (useS (Pw.mk false false 0 0)) ((List.replicate 5 blankS).length) (writeS (Pw.mk false false 0 0) ((List.replicate 5 blankS).length) ([] : List (Int × Bs)) 1 [[97]].flatten) 2 [[98]].flatten) (List.replicate 5 blankS) [2]) 2 = 0)))) rfl ?_)
          by_cases h53 : readE (backS (useS (useS (Pw.mk false false 0 0)))) (settleS (writeS (useS (Pw.mk false false 0 0)) ((List.replicate 5 blankS).length) (writeS (Pw.mk false false 0 0) ((List.replicate 5 blankS).length) ([] : List (Int × Bs)) 1 [[97]].flatten) 2 [[98]].flatten) (List.replicate 5 blankS) [2]) 2 = 0
          · -- readE (backS (useS (useS (Pw.mk false false 0 0)))) (settleS (writeS (useS (Pw.mk false false 0 0)) ((List.replicate 5 blankS).length) (writeS (Pw.mk false false 0 0) ((List.replicate 5 blankS).length) ([] : List (Int × Bs)) 1 [[97]].flatten) 2 [[98]].flatten) (List.replicate 5 blankS) [2]) 2 = 0
            refine s_on 47 rfl (congrArg Value.bool (decide_eq_true h53)) (o_move (v := (S (readS (backS (useS (useS (Pw.mk false false 0 0)))) (settleS (writeS (useS (Pw.mk false false 0 0)) ((List.replicate 5 blankS).length) (writeS (Pw.mk false false 0 0) ((List.replicate 5 blankS).length) ([] : List (Int × Bs)) 1 [[97]].flatten) 2 [[98]].flatten) (List.replicate 5 blankS) [2]) ([] : List (Int × Bs)) 2))) rfl ?_)
            refine s_on 47 rfl (congrArg Value.bool (decide_eq_true h53)) (o_callf (vs := #[]) ca28 rfl (args0) (lblank_c hH50.all) ?_)
            rintro _ w56 ⟨rfl, hX54⟩
            refine ⟨_, rfl, ?_⟩
            have hH55 := hX54.of_all
            refine s_on 47 rfl (congrArg Value.bool (decide_eq_true h53)) (o_ssl_l Try.underlying9 rfl rfl (by omega) (by decide) ?_)
            refine s_on 47 rfl (congrArg Value.bool (decide_eq_true h53)) (o_sadd rfl rfl (by decide) ?_)
            refine s_on 47 rfl (congrArg Value.bool (decide_eq_true h53)) (o_seql (a := (readS (backS (useS (useS (Pw.mk false false 0 0)))) (settleS (writeS (useS (Pw.mk false false 0 0)) ((List.replicate 5 blankS).length) (writeS (Pw.mk false false 0 0) ((List.replicate 5 blankS).length) ([] : List (Int × Bs)) 1 [[97]].flatten) 2 [[98]].flatten) (List.replicate 5 blankS) [2]) ([] : List (Int × Bs)) 2)) (b := [98] ++ (blankS.drop 1)) rfl rfl ?_)
            refine s_op (o_pick_t (u := (.bool (decide ((readS (backS (useS (useS (Pw.mk false false 0 0)))) (settleS (writeS (useS (Pw.mk false false 0 0)) ((List.replicate 5 blankS).length) (writeS (Pw.mk false false 0 0) ((List.replicate 5 blankS).length) ([] : List (Int × Bs)) 1 [[97]].flatten) 2 [[98]].flatten) (List.replicate 5 blankS) [2]) ([] : List (Int × Bs)) 2) = [98] ++ (blankS.drop 1))))) ((rfl : _ = _).trans (congrArg Value.bool (decide_eq_true h53))) rfl ?_)
            refine s_op (o_move (v := (.bool (decide ((readS (backS (useS (useS (Pw.mk false false 0 0)))) (settleS (writeS (useS (Pw.mk false false 0 0)) ((List.replicate 5 blankS).length) (writeS (Pw.mk false false 0 0) ((List.replicate 5 blankS).length) ([] : List (Int × Bs)) 1 [[97]].flatten) 2 [[98]].flatten) (List.replicate 5 blankS) [2]) ([] : List (Int × Bs)) 2) = [98] ++ (blankS.drop 1))))) rfl ?_)
            by_cases h57 : (readS (backS (useS (useS (Pw.mk false false 0 0)))) (settleS (writeS (useS (Pw.mk false false 0 0)) ((List.replicate 5 blankS).length) (writeS (Pw.mk false false 0 0) ((List.replicate 5 blankS).length) ([] : List (Int × Bs)) 1 [[97]].flatten) 2 [[98]].flatten) (List.replicate 5 blankS) [2]) ([] : List (Int × Bs)) 2) = [98] ++ (blankS.drop 1)
            · -- (readS (backS (useS (useS (Pw.mk false false 0 0)))) (settleS (writeS (useS (Pw.mk false false 0 0)) ((List.replicate 5 blankS).length) (writeS (Pw.mk false false 0 0) ((List.replicate 5 blankS).length) ([] : List (Int × Bs)) 1 [[97]].flatten) 2 [[98]].flatten) (List.replicate 5 blankS) [2]) ([] : List (Int × Bs)) 2) = [98] ++ (blankS.drop 1)
              refine s_on 54 rfl (congrArg Value.bool (decide_eq_true h57)) (o_move (v := (.pointer (some ⟨db3, 0, none⟩))) rfl ?_)
              refine s_on 54 rfl (congrArg Value.bool (decide_eq_true h57)) (o_callf (vs := #[(.pointer (some ⟨db3, 0, none⟩))]) ca63 rfl (args1 rfl) (duses_d (p := (backS (useS (useS (Pw.mk false false 0 0))))) (la := (settleS (writeS (useS (Pw.mk false false 0 0)) ((List.replicate 5 blankS).length) (writeS (Pw.mk false false 0 0) ((List.replicate 5 blankS).length) ([] : List (Int × Bs)) 1 [[97]].flatten) 2 [[98]].flatten) (List.replicate 5 blankS) [2])) (lo := ([] : List (Int × Bs))) ((hH55.front 1 rfl).front 1 rfl).all2 hd33 ) ?_)
              rintro _ w60 ⟨rfl, hX58⟩
              refine ⟨_, rfl, ?_⟩
              have hH59 : Has E w60 [sg32, [Hp.one pb4 (.cells #[(.bool (backS (useS (useS (Pw.mk false false 0 0)))).off), (.bool (backS (useS (useS (Pw.mk false false 0 0)))).armed), (.int .i64 (backS (useS (useS (Pw.mk false false 0 0)))).left), (.int .i64 (backS (useS (useS (Pw.mk false false 0 0)))).uses)] 101 (0, 0))], [Hp.one b29 (.cells #[(.int .i64 2)] 3 (0, 0))], [Hp.one b20 (.cells #[(S [98])] 9 (0, 0))], [Hp.one b11 (.cells #[(S [97])] 9 (0, 0))], R] := hX58.of_all2
              refine s_on 54 rfl (congrArg Value.bool (decide_eq_true h57)) (o_eql (a := (backS (useS (useS (Pw.mk false false 0 0)))).uses) (b := 2) rfl rfl ?_)
              refine s_op (o_pick_t (u := (.bool (decide ((backS (useS (useS (Pw.mk false false 0 0)))).uses = 2)))) ((rfl : _ = _).trans (congrArg Value.bool (decide_eq_true h57))) rfl ?_)
              refine s_op (o_assign (v := (.bool (decide ((backS (useS (useS (Pw.mk false false 0 0)))).uses = 2)))) rfl ?_)
              refine s_nil ?_
              refine t_norm (hK45 _ _ ?_)
              refine wp_ret ?_
              refine c_ret1 Try.results27  (v := (.bool (decide ((backS (useS (useS (Pw.mk false false 0 0)))).uses = 2)))) rfl ?_
              have hH61 : Has E w60 [R] := (hH59.front 5 rfl).first 1 rfl
              exact ⟨by rw [decide_eq_true (by decide +kernel)], hH61⟩
            · -- not: (readS (backS (useS (useS (Pw.mk false false 0 0)))) (settleS (writeS (useS (Pw.mk false false 0 0)) ((List.replicate 5 blankS).length) (writeS (Pw.mk false false 0 0) ((List.replicate 5 blankS).length) ([] : List (Int × Bs)) 1 [[97]].flatten) 2 [[98]].flatten) (List.replicate 5 blankS) [2]) ([] : List (Int × Bs)) 2) = [98] ++ (blankS.drop 1)
              exact absurd (by decide +kernel) h57
          · -- not: readE (backS (useS (useS (Pw.mk false false 0 0)))) (settleS (writeS (useS (Pw.mk false false 0 0)) ((List.replicate 5 blankS).length) (writeS (Pw.mk false false 0 0) ((List.replicate 5 blankS).length) ([] : List (Int × Bs)) 1 [[97]].flatten) 2 [[98]].flatten) (List.replicate 5 blankS) [2]) 2 = 0
            exact absurd (by decide +kernel) h53
        · -- not: (readS (backS (useS (useS (Pw.mk false false 0 0)))) (settleS (writeS (useS (Pw.mk false false 0 0)) ((List.replicate 5 blankS).length) (writeS (Pw.mk false false 0 0) ((List.replicate 5 blankS).length) ([] : List (Int × Bs)) 1 [[97]].flatten) 2 [[98]].flatten) (List.replicate 5 blankS) [2]) ([] : List (Int × Bs)) 1) = blankS
          exact absurd (by decide +kernel) h52
      · -- not: readE (backS (useS (useS (Pw.mk false false 0 0)))) (settleS (writeS (useS (Pw.mk false false 0 0)) ((List.replicate 5 blankS).length) (writeS (Pw.mk false false 0 0) ((List.replicate 5 blankS).length) ([] : List (Int × Bs)) 1 [[97]].flatten) 2 [[98]].flatten) (List.replicate 5 blankS) [2]) 1 = 0
        exact absurd (by decide +kernel) h48
    · -- not: writeE (useS (Pw.mk false false 0 0)) ((List.replicate 5 blankS).length) 2 [[98]].flatten = 0
      exact absurd (by decide +kernel) h47
  · -- not: writeE (Pw.mk false false 0 0) ((List.replicate 5 blankS).length) 1 [[97]].flatten = 0
    exact absurd (by decide +kernel) h46
end Go.Q
