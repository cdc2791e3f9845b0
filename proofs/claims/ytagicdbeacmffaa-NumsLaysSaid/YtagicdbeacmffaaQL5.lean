/-
  Parts of a walk: what functions of the program compute, each told by a theorem.
-/
import Derived.Test.YtagicdbeacmffaaQS5
import Derived.Test.YtagicdbeacmffaaQR3
set_option linter.unusedVariables false
set_option linter.unusedSimpArgs false
namespace Go.Q
open Go.Proofs
set_option linter.unusedVariables false
set_option maxRecDepth 100000
attribute [local irreducible] wpList OK Code.wp
theorem putw_t {l : List Int} {k : Nat} {size : Int} {bo : Bool} {want : List UInt8} (hbt : bo = true → (1 ≤ size ∧ size ≤ 8) ∧ (∀ x ∈ l.take k, fitsS x size.toNat = true) ∧ want = (l.take k).flatMap (beFrom · size.toNat)) (h : bo = true) (hk : k = l.length) : want = putS size.toNat l := by
  obtain ⟨h1, h2, h3⟩ := hbt h
  subst hk
  rw [List.take_of_length_le (Nat.le_refl _)] at h2 h3
  rw [putS_yes (by omega) (by omega) h2, h3]
set_option maxHeartbeats 4000000 in
theorem NumsLays_c {E w : World} {R : List Hp} (hH : Has E w [R]) (size : Int) {v : Value} {l : List Int} (hv : Ints R v l) (hlr : ∀ n ∈ l, -9223372036854775808 ≤ n ∧ n ≤ 9223372036854775807) (s : List UInt8) (other : Int) :
    Calls Try.prog 6 #[(.int .i64 size), v, (S s), (.int .i64 other)] w fun e w' => e = .returned (.bool true) ∧ Has E w' [R] := by
  have hn := hv.le
  refine c_enter (args := [(.int .i64 size), v, (S s), (.int .i64 other)]) Try.func6 rfl Try.ntmps6 (by simp) ?_
  refine wp_seq_k fun K1 hK1 => ?_
  refine c_region ?_
  refine s_op (o_assign (v := (.bool false)) rfl ?_)
  refine s_nil ?_
  refine t_norm (hK1 _ _ ?_)
  refine wp_seq_k fun K2 hK2 => ?_
  refine wp_seq_k fun K3 hK3 => ?_
  refine c_region ?_
  refine s_op (o_move (v := v) rfl ?_)
  refine s_op (o_lenS Try.underlying28 rfl hv ?_)
  refine s_op (o_gtr (a := ((l.length : Nat) : Int)) (b := 50) rfl rfl ?_)
  refine s_op (o_move (v := (.bool (decide (50 < ((l.length : Nat) : Int))))) rfl ?_)
  by_cases h4 : 50 < ((l.length : Nat) : Int)
  · -- 50 < ((l.length : Nat) : Int)
    refine s_off (b' := true) 23 rfl (congrArg Value.bool (decide_eq_true h4)) rfl ?_
    refine s_off (b' := true) 23 rfl (congrArg Value.bool (decide_eq_true h4)) rfl ?_
    refine s_off (b' := true) 23 rfl (congrArg Value.bool (decide_eq_true h4)) rfl ?_
    refine s_op (o_pick_t (u := (.bool true)) ((rfl : _ = _).trans (congrArg Value.bool (decide_eq_true h4))) rfl ?_)
    refine s_nil ?_
    refine t_norm (hK3 _ _ ?_)
    refine c_true rfl rfl ?_
    refine wp_seq_k fun K5 hK5 => ?_
    refine c_region ?_
    refine s_op (o_callf (vs := #[]) ca27 rfl (args0) (awake_c hH.all) ?_)
    rintro _ w8 ⟨rfl, hX6⟩
    refine ⟨_, rfl, ?_⟩
    have hH7 := hX6.of_all
    refine s_op (o_assign (v := (.bool true)) rfl ?_)
    refine s_nil ?_
    refine t_norm (hK5 _ _ ?_)
    refine wp_ret ?_
    refine t_ret (c_ret1 Try.results6 (v := (.bool true)) rfl ?_)
    exact ⟨rfl, hH7⟩
  · -- not: 50 < ((l.length : Nat) : Int)
    refine s_on 23 rfl (congrArg Value.bool (decide_eq_false h4)) (o_move (v := (S s)) rfl ?_)
    refine s_on 23 rfl (congrArg Value.bool (decide_eq_false h4)) (o_slen Try.underlying9 rfl ?_)
    refine s_on 23 rfl (congrArg Value.bool (decide_eq_false h4)) (o_gtr (a := (s.length : Int)) (b := 100) rfl rfl ?_)
    refine s_op (o_pick_f (u := (.bool (decide (100 < (s.length : Int))))) ((rfl : _ = _).trans (congrArg Value.bool (decide_eq_false h4))) rfl ?_)
    refine s_nil ?_
    refine t_norm (hK3 _ _ ?_)
    refine c_cond rfl (fun h9 => ?_) (fun h9 => ?_)
    · -- 100 < (s.length : Int)
      refine wp_seq_k fun K10 hK10 => ?_
      refine c_region ?_
      refine s_op (o_callf (vs := #[]) ca27 rfl (args0) (awake_c hH.all) ?_)
      rintro _ w13 ⟨rfl, hX11⟩
      refine ⟨_, rfl, ?_⟩
      have hH12 := hX11.of_all
      refine s_op (o_assign (v := (.bool true)) rfl ?_)
      refine s_nil ?_
      refine t_norm (hK10 _ _ ?_)
      refine wp_ret ?_
      refine t_ret (c_ret1 Try.results6 (v := (.bool true)) rfl ?_)
      exact ⟨rfl, hH12⟩
    · -- not: 100 < (s.length : Int)
      refine wp_skip ?_
      refine t_norm (hK2 _ _ ?_)
      refine wp_seq_k fun K14 hK14 => ?_
      refine c_region ?_
      refine s_op (o_assign (v := (S ([] : List UInt8))) rfl ?_)
      refine s_nil ?_
      refine t_norm (hK14 _ _ ?_)
      refine wp_seq_k fun K15 hK15 => ?_
      let J17 : (Nat → Value) → World → Prop := fun r__ w__ => ∃ (b4 : Bool), Has E w__ [R] ∧ (b4 = true → 1 ≤ size ∧ size ≤ 8) ∧ (b4 = false → ¬ (1 ≤ size ∧ size ≤ 8)) ∧ r__ 0 = (.int .i64 size) ∧ r__ 1 = v ∧ r__ 2 = (S s) ∧ r__ 3 = (.int .i64 other) ∧ r__ 8 = (.bool false) ∧ r__ 9 = (S ([] : List UInt8)) ∧ r__ 10 = (.bool b4) ∧ r__ 27 = (.bool (decide (100 < (s.length : Int))))
      have hJ18 : ∀ r w, J17 r w → K15 (Go.Q.fr 107 r) w := by
        rintro r21 w19 ⟨b4, hH20, h4t, h4f, e16_0, e16_1, e16_2, e16_3, e16_8, e16_9, e16_10, e16_27⟩
        refine hK15 _ _ ?_
        refine wp_seq_k fun K22 hK22 => ?_
        refine wp_seq_k fun K23 hK23 => ?_
        refine c_region ?_
        refine s_op (o_assign (v := (.int .i64 0)) rfl ?_)
        refine s_nil ?_
        refine t_norm (hK23 _ _ ?_)
        refine wp_block ?_
        let I25 : Nat → (Nat → Value) → World → Prop := fun n__ r__ w__ => ∃ (k : Nat) (bo : Bool) (want : List UInt8), n__ = l.length - k ∧ Has E w__ [R] ∧ (k ≤ l.length) ∧ (bo = true → (1 ≤ size ∧ size ≤ 8) ∧ (∀ x ∈ l.take k, fitsS x size.toNat = true) ∧ want = (l.take k).flatMap (beFrom · size.toNat)) ∧ (bo = false → ¬ (1 ≤ size.toNat ∧ size.toNat ≤ 8) ∨ ∃ x ∈ l, fitsS x size.toNat = false) ∧ (want.length ≤ 8 * k) ∧ r__ 0 = (.int .i64 size) ∧ r__ 1 = v ∧ r__ 2 = (S s) ∧ r__ 3 = (.int .i64 other) ∧ r__ 8 = (.bool false) ∧ r__ 9 = (S want) ∧ r__ 10 = (.bool bo) ∧ r__ 11 = (.int .i64 (k : Int)) ∧ r__ 27 = (.bool (decide (100 < (s.length : Int))))
        refine c_loop I25 _ ⟨0, b4, [], rfl, hH20, Nat.zero_le _, fun g => ⟨h4t g, by simp, rfl⟩, fun g => .inl (by have := h4f g; omega), (by simp), e16_0, e16_1, e16_2, e16_3, e16_8, e16_9, e16_10, rfl, e16_27⟩ ?_
        rintro n_ r28 w26 ⟨k, bo, want, rfl, hH27, hk, hbt, hbf, hwl, e24_0, e24_1, e24_2, e24_3, e24_8, e24_9, e24_10, e24_11, e24_27⟩
        refine wp_seq_k fun K29 hK29 => ?_
        refine wp_seq_k fun K30 hK30 => ?_
        refine c_region ?_
        refine s_op (o_move (v := (.int .i64 (k : Int))) e24_11 ?_)
        refine s_op (o_move (v := v) e24_1 ?_)
        refine s_op (o_lenS Try.underlying28 rfl hv ?_)
        refine s_op (o_lss (a := (k : Int)) (b := ((l.length : Nat) : Int)) rfl rfl ?_)
        refine s_op (o_move (v := (.bool (decide ((k : Int) < ((l.length : Nat) : Int))))) rfl ?_)
        by_cases h31 : (k : Int) < ((l.length : Nat) : Int)
        · -- (k : Int) < ((l.length : Nat) : Int)
          refine s_on 39 rfl (congrArg Value.bool (decide_eq_true h31)) (o_move (v := (.bool bo)) e24_10 ?_)
          refine s_op (o_pick_t (u := (.bool bo)) ((rfl : _ = _).trans (congrArg Value.bool (decide_eq_true h31))) rfl ?_)
          refine s_nil ?_
          refine t_norm (hK30 _ _ ?_)
          refine c_condb rfl (fun h32 => ?_) (fun h32 => ?_)
          · -- bo
            have hbz := (hbt h32).1
            refine wp_skip ?_
            refine t_norm (hK29 _ _ ?_)
            refine wp_seq_k fun K33 hK33 => ?_
            refine wp_block ?_
            refine wp_seq_k fun K34 hK34 => ?_
            refine c_region ?_
            refine s_op (o_move (v := (.int .i64 size)) e24_0 ?_)
            refine s_op (o_move (v := v) e24_1 ?_)
            refine s_op (o_move (v := (.int .i64 (k : Int))) e24_11 ?_)
            obtain ⟨x38, hx39⟩ : ∃ x, l[((k : Int)).toNat]? = some x := get_some (by omega)
            refine s_op (o_index1 Try.underlying28 ti3 rfl hv rfl (by omega) hx39 fun b35 o36 hc37 => ?_)
            refine s_op (o_load1 (v := (.int .i64 x38)) Try.underlying3 rfl rfl hH27 (seg_sub 0 rfl) hc37 ?_)
            refine s_op (o_callf (vs := #[(.int .i64 size), (.int .i64 x38)]) ca28 rfl (args2 rfl rfl) (refPut_z hH27.all size (by omega) x38 (hlr _ (List.mem_of_getElem? hx39))) ?_)
            rintro _ w45 ⟨t40, rfl, ht41, ht42, hX43⟩
            refine ⟨_, rfl, ?_⟩
            have hH44 : Has E w45 [R] := hX43.of_all
            refine s_op (o_move (v := (.tuple #[(S t40), (.bool (fitsS x38 size.toNat))])) rfl ?_)
            refine s_op (o_extract (v := (S t40)) rfl rfl ?_)
            refine s_op (o_extract (v := (.bool (fitsS x38 size.toNat))) rfl rfl ?_)
            refine s_op (o_assign (v := (S t40)) rfl ?_)
            refine s_op (o_assign (v := (.bool (fitsS x38 size.toNat))) rfl ?_)
            refine s_nil ?_
            refine t_norm (hK34 _ _ ?_)
            refine wp_seq_k fun K46 hK46 => ?_
            refine c_region ?_
            refine s_op (o_move (v := (.bool (fitsS x38 size.toNat))) rfl ?_)
            refine s_op (o_move (v := (.bool (fitsS x38 size.toNat))) rfl ?_)
            rcases Bool.eq_false_or_eq_true (fitsS x38 size.toNat) with h47 | h47
            · -- fitsS x38 size.toNat
              refine s_on 54 rfl (congrArg Value.bool h47) (o_move (v := v) e24_1 ?_)
              refine s_on 54 rfl (congrArg Value.bool h47) (o_move (v := (.int .i64 (k : Int))) e24_11 ?_)
              refine s_on 54 rfl (congrArg Value.bool h47) (o_index1 Try.underlying28 ti3 rfl hv rfl (by omega) hx39 fun b48 o49 hc50 => ?_)
              refine s_on 54 rfl (congrArg Value.bool h47) (o_load1 (v := (.int .i64 x38)) Try.underlying3 rfl rfl hH44 (seg_sub 0 rfl) hc50 ?_)
              refine s_on 54 rfl (congrArg Value.bool h47) (o_geq (a := x38) (b := 0) rfl rfl ?_)
              refine s_op (o_pick_t (u := (.bool (decide (0 ≤ x38)))) ((rfl : _ = _).trans (congrArg Value.bool h47)) rfl ?_)
              refine s_op (o_assign (v := (.bool (decide (0 ≤ x38)))) rfl ?_)
              refine s_nil ?_
              refine t_norm (hK46 _ _ ?_)
              refine c_region ?_
              refine s_op (o_move (v := (S want)) e24_9 ?_)
              refine s_op (o_move (v := (S t40)) rfl ?_)
              refine s_op (o_sadd rfl rfl (by omega) ?_)
              refine s_op (o_assign (v := (S (want ++ t40))) rfl ?_)
              refine s_nil ?_
              refine b_norm ?_
              refine t_norm (hK33 _ _ ?_)
              refine c_region ?_
              refine s_op (o_move (v := (.int .i64 (k : Int))) e24_11 ?_)
              refine s_op (o_add (a := (k : Int)) (b := 1) rfl rfl (w64 (by omega) (by omega)) ?_)
              refine s_op (o_assign (v := (.int .i64 ((k : Int) + 1))) rfl ?_)
              refine s_nil ?_
              refine t_norm ⟨l.length - (k + 1), _, rfl, ?_, ?_⟩
              · omega
              · exact ⟨(k + 1), (decide (0 ≤ x38)), (want ++ t40), rfl, hH44, (by omega), (fun _ => ⟨(hbt h32).1, by rw [take_succ_of (show l[k]? = some x38 from hx39)]; exact fun y hy => (List.mem_append.1 hy).elim ((hbt h32).2.1 y) (fun g => by rw [List.mem_singleton.1 g]; exact h47), by rw [take_succ_of (show l[k]? = some x38 from hx39), List.flatMap_append, ← (hbt h32).2.2, ht42 h47]; simp⟩), (fun g => absurd (fits_nonneg h47) (of_decide_eq_false g)), (by rw [List.length_append, ht41]; omega), e24_0, e24_1, e24_2, e24_3, e24_8, rfl, rfl, rfl, e24_27⟩
            · -- not: fitsS x38 size.toNat
              refine s_off (b' := false) 54 rfl (congrArg Value.bool h47) rfl ?_
              refine s_off (b' := false) 54 rfl (congrArg Value.bool h47) rfl ?_
              refine s_off (b' := false) 54 rfl (congrArg Value.bool h47) rfl ?_
              refine s_off (b' := false) 54 rfl (congrArg Value.bool h47) rfl ?_
              refine s_off (b' := false) 54 rfl (congrArg Value.bool h47) rfl ?_
              refine s_op (o_pick_f (u := (.bool false)) ((rfl : _ = _).trans (congrArg Value.bool h47)) rfl ?_)
              refine s_op (o_assign (v := (.bool false)) rfl ?_)
              refine s_nil ?_
              refine t_norm (hK46 _ _ ?_)
              refine c_region ?_
              refine s_op (o_move (v := (S want)) e24_9 ?_)
              refine s_op (o_move (v := (S t40)) rfl ?_)
              refine s_op (o_sadd rfl rfl (by omega) ?_)
              refine s_op (o_assign (v := (S (want ++ t40))) rfl ?_)
              refine s_nil ?_
              refine b_norm ?_
              refine t_norm (hK33 _ _ ?_)
              refine c_region ?_
              refine s_op (o_move (v := (.int .i64 (k : Int))) e24_11 ?_)
              refine s_op (o_add (a := (k : Int)) (b := 1) rfl rfl (w64 (by omega) (by omega)) ?_)
              refine s_op (o_assign (v := (.int .i64 ((k : Int) + 1))) rfl ?_)
              refine s_nil ?_
              refine t_norm ⟨l.length - (k + 1), _, rfl, ?_, ?_⟩
              · omega
              · exact ⟨(k + 1), false, (want ++ t40), rfl, hH44, (by omega), (fun g => absurd g (by decide)), (fun _ => .inr ⟨x38, List.mem_of_getElem? (show l[k]? = some x38 from hx39), h47⟩), (by rw [List.length_append, ht41]; omega), e24_0, e24_1, e24_2, e24_3, e24_8, rfl, rfl, rfl, e24_27⟩
          · -- not: bo
            refine wp_exit ?_
            refine t_exit (t_exit (x_in (?_)))
            refine t_norm (hK22 _ _ ?_)
            refine wp_seq_k fun K51 hK51 => ?_
            let J53 : (Nat → Value) → World → Prop := fun r__ w__ => ∃ (w2 : List UInt8), Has E w__ [R] ∧ (w2 = putS size.toNat l) ∧ r__ 0 = (.int .i64 size) ∧ r__ 1 = v ∧ r__ 2 = (S s) ∧ r__ 3 = (.int .i64 other) ∧ r__ 8 = (.bool false) ∧ r__ 9 = (S w2) ∧ r__ 10 = (.bool bo) ∧ r__ 11 = (.int .i64 (k : Int)) ∧ r__ 27 = (.bool (decide (100 < (s.length : Int)))) ∧ r__ 41 = (.bool bo)
            have hJ54 : ∀ r w, J53 r w → K51 (Go.Q.fr 107 r) w := by
              rintro r57 w55 ⟨w2, hH56, hw2, e52_0, e52_1, e52_2, e52_3, e52_8, e52_9, e52_10, e52_11, e52_27, e52_41⟩
              refine hK51 _ _ ?_
              refine wp_seq_k fun K58 hK58 => ?_
              refine c_region ?_
              refine s_op (o_move (v := (S s)) e52_2 ?_)
              refine s_op (o_move (v := (.int .i64 other)) e52_3 ?_)
              refine s_op (o_callf (vs := #[(S s), (.int .i64 other)]) ca29 rfl (args2 rfl rfl) (take_z hH56.all other s (by omega)) ?_)
              rintro _ w61 ⟨rfl, hX59⟩
              refine ⟨_, rfl, ?_⟩
              have hH60 := hX59.of_all
              refine s_op (o_move (v := (.tuple #[(.int .i64 ((takeS s other.toNat).1)), (S ((takeS s other.toNat).2.1)), (.bool ((takeS s other.toNat).2.2))])) rfl ?_)
              refine s_op (o_extract (v := (.int .i64 ((takeS s other.toNat).1))) rfl rfl ?_)
              refine s_op (o_extract (v := (S ((takeS s other.toNat).2.1))) rfl rfl ?_)
              refine s_op (o_extract (v := (.bool ((takeS s other.toNat).2.2))) rfl rfl ?_)
              refine s_op (o_assign (v := (.int .i64 ((takeS s other.toNat).1))) rfl ?_)
              refine s_op (o_assign (v := (S ((takeS s other.toNat).2.1))) rfl ?_)
              refine s_op (o_assign (v := (.bool ((takeS s other.toNat).2.2))) rfl ?_)
              refine s_nil ?_
              refine t_norm (hK58 _ _ ?_)
              refine wp_seq_k fun K62 hK62 => ?_
              refine c_region ?_
              refine s_op (o_move (v := (S s)) e52_2 ?_)
              refine s_op (o_move (v := (.int .i64 other)) e52_3 ?_)
              refine s_op (o_callf (vs := #[(S s), (.int .i64 other)]) ca30 rfl (args2 rfl rfl) (refTake_z hH60.all other s (by omega)) ?_)
              rintro _ w65 ⟨rfl, hX63⟩
              refine ⟨_, rfl, ?_⟩
              have hH64 := hX63.of_all
              refine s_op (o_move (v := (.tuple #[(.int .i64 ((takeS s other.toNat).1)), (.bool ((takeS s other.toNat).2.2))])) rfl ?_)
              refine s_op (o_extract (v := (.int .i64 ((takeS s other.toNat).1))) rfl rfl ?_)
              refine s_op (o_extract (v := (.bool ((takeS s other.toNat).2.2))) rfl rfl ?_)
              refine s_op (o_assign (v := (.int .i64 ((takeS s other.toNat).1))) rfl ?_)
              refine s_op (o_assign (v := (.bool ((takeS s other.toNat).2.2))) rfl ?_)
              refine s_nil ?_
              refine t_norm (hK62 _ _ ?_)
              refine wp_seq_k fun K66 hK66 => ?_
              refine c_region ?_
              refine s_op (o_move (v := (S s)) e52_2 ?_)
              refine s_op (o_assign (v := (S s)) rfl ?_)
              refine s_nil ?_
              refine t_norm (hK66 _ _ ?_)
              refine wp_seq_k fun K67 hK67 => ?_
              let J69 : (Nat → Value) → World → Prop := fun r__ w__ => ∃ (lf : List UInt8), Has E w__ [R] ∧ (lf = (takeS s other.toNat).2.1) ∧ r__ 0 = (.int .i64 size) ∧ r__ 1 = v ∧ r__ 2 = (S s) ∧ r__ 3 = (.int .i64 other) ∧ r__ 8 = (.bool false) ∧ r__ 9 = (S w2) ∧ r__ 10 = (.bool bo) ∧ r__ 11 = (.int .i64 (k : Int)) ∧ r__ 14 = (.int .i64 ((takeS s other.toNat).1)) ∧ r__ 15 = (S ((takeS s other.toNat).2.1)) ∧ r__ 16 = (.bool ((takeS s other.toNat).2.2)) ∧ r__ 17 = (.int .i64 ((takeS s other.toNat).1)) ∧ r__ 18 = (.bool ((takeS s other.toNat).2.2)) ∧ r__ 19 = (S lf) ∧ r__ 27 = (.bool (decide (100 < (s.length : Int)))) ∧ r__ 41 = (.bool bo)
              have hJ70 : ∀ r w, J69 r w → K67 (Go.Q.fr 107 r) w := by
                rintro r73 w71 ⟨lf, hH72, hlf, e68_0, e68_1, e68_2, e68_3, e68_8, e68_9, e68_10, e68_11, e68_14, e68_15, e68_16, e68_17, e68_18, e68_19, e68_27, e68_41⟩
                refine hK67 _ _ ?_
                refine wp_seq_k fun K74 hK74 => ?_
                refine c_region ?_
                refine s_op (o_move (v := (.int .i64 size)) e68_0 ?_)
                refine s_op (o_move (v := v) e68_1 ?_)
                refine s_op (o_callf (vs := #[(.int .i64 size), v]) ca26 rfl (args2 rfl rfl) (put_z hH72.all size (l := l) (hv.mono (seg_sub 0 rfl)) (by omega)) ?_)
                rintro _ w77 ⟨rfl, hX75⟩
                refine ⟨_, rfl, ?_⟩
                have hH76 := hX75.of_all
                refine s_op (o_move (v := (S w2)) e68_9 ?_)
                refine s_op (o_seql (a := putS size.toNat l) (b := w2) rfl rfl ?_)
                refine s_op (o_move (v := (.bool (decide (putS size.toNat l = w2)))) rfl ?_)
                by_cases h78 : putS size.toNat l = w2
                · -- putS size.toNat l = w2
                  refine s_on 89 rfl (congrArg Value.bool (decide_eq_true h78)) (o_move (v := (.int .i64 ((takeS s other.toNat).1))) e68_14 ?_)
                  refine s_on 89 rfl (congrArg Value.bool (decide_eq_true h78)) (o_move (v := (.int .i64 ((takeS s other.toNat).1))) e68_17 ?_)
                  refine s_on 89 rfl (congrArg Value.bool (decide_eq_true h78)) (o_eql (a := (takeS s other.toNat).1) (b := (takeS s other.toNat).1) rfl rfl ?_)
                  refine s_op (o_pick_t (u := (.bool (decide ((takeS s other.toNat).1 = (takeS s other.toNat).1)))) ((rfl : _ = _).trans (congrArg Value.bool (decide_eq_true h78))) rfl ?_)
                  refine s_op (o_move (v := (.bool (decide ((takeS s other.toNat).1 = (takeS s other.toNat).1)))) rfl ?_)
                  by_cases h79 : (takeS s other.toNat).1 = (takeS s other.toNat).1
                  · -- (takeS s other.toNat).1 = (takeS s other.toNat).1
                    refine s_on 94 rfl (congrArg Value.bool (decide_eq_true h79)) (o_move (v := (.bool ((takeS s other.toNat).2.2))) e68_16 ?_)
                    refine s_on 94 rfl (congrArg Value.bool (decide_eq_true h79)) (o_move (v := (.bool ((takeS s other.toNat).2.2))) e68_18 ?_)
                    refine s_on 94 rfl (congrArg Value.bool (decide_eq_true h79)) (o_eqlb Try.underlying4 rfl rfl ?_)
                    refine s_op (o_pick_t (u := (.bool (((takeS s other.toNat).2.2) == ((takeS s other.toNat).2.2)))) ((rfl : _ = _).trans (congrArg Value.bool (decide_eq_true h79))) rfl ?_)
                    refine s_op (o_move (v := (.bool (((takeS s other.toNat).2.2) == ((takeS s other.toNat).2.2)))) rfl ?_)
                    rcases Bool.eq_false_or_eq_true (((takeS s other.toNat).2.2) == ((takeS s other.toNat).2.2)) with h80 | h80
                    · -- ((takeS s other.toNat).2.2) == ((takeS s other.toNat).2.2)
                      refine s_on 99 rfl (congrArg Value.bool h80) (o_move (v := (S ((takeS s other.toNat).2.1))) e68_15 ?_)
                      refine s_on 99 rfl (congrArg Value.bool h80) (o_move (v := (S lf)) e68_19 ?_)
                      refine s_on 99 rfl (congrArg Value.bool h80) (o_seql (a := (takeS s other.toNat).2.1) (b := lf) rfl rfl ?_)
                      refine s_op (o_pick_t (u := (.bool (decide ((takeS s other.toNat).2.1 = lf)))) ((rfl : _ = _).trans (congrArg Value.bool h80)) rfl ?_)
                      refine s_op (o_move (v := (.bool (decide ((takeS s other.toNat).2.1 = lf)))) rfl ?_)
                      by_cases h81 : (takeS s other.toNat).2.1 = lf
                      · -- (takeS s other.toNat).2.1 = lf
                        refine s_on 104 rfl (congrArg Value.bool (decide_eq_true h81)) (o_callf (vs := #[]) ca27 rfl (args0) (awake_c hH76.all) ?_)
                        rintro _ w84 ⟨rfl, hX82⟩
                        refine ⟨_, rfl, ?_⟩
                        have hH83 := hX82.of_all
                        refine s_op (o_pick_t (u := (.bool true)) ((rfl : _ = _).trans (congrArg Value.bool (decide_eq_true h81))) rfl ?_)
                        refine s_op (o_assign (v := (.bool true)) rfl ?_)
                        refine s_nil ?_
                        refine t_norm (hK74 _ _ ?_)
                        refine wp_ret ?_
                        refine c_ret1 Try.results6 (v := (.bool true)) rfl ?_
                        exact ⟨rfl, hH83⟩
                      · -- not: (takeS s other.toNat).2.1 = lf
                        exact absurd hlf.symm h81
                    · -- not: ((takeS s other.toNat).2.2) == ((takeS s other.toNat).2.2)
                      simp at h80
                  · -- not: (takeS s other.toNat).1 = (takeS s other.toNat).1
                    exact absurd rfl h79
                · -- not: putS size.toNat l = w2
                  exact absurd hw2.symm h78
              refine wp_seq_k fun K85 hK85 => ?_
              refine c_region ?_
              refine s_op (o_move (v := (.bool ((takeS s other.toNat).2.2))) rfl ?_)
              refine s_nil ?_
              refine t_norm (hK85 _ _ ?_)
              refine c_condb rfl (fun h86 => ?_) (fun h86 => ?_)
              · -- (takeS s other.toNat).2.2
                have ht_ := take_true h86
                refine c_region ?_
                refine s_op (o_move (v := (S s)) e52_2 ?_)
                refine s_op (o_move (v := (.int .i64 other)) e52_3 ?_)
                refine s_op (o_ssl_l Try.underlying9 rfl rfl (by omega) (by omega) ?_)
                refine s_op (o_assign (v := (S (s.drop (other).toNat))) rfl ?_)
                refine s_nil ?_
                refine t_norm (hJ70 _ _ ⟨(s.drop (other).toNat), hH64, ((take_true h86).2.2.symm), e52_0, e52_1, e52_2, e52_3, e52_8, e52_9, e52_10, e52_11, rfl, rfl, rfl, rfl, rfl, rfl, e52_27, e52_41⟩)
              · -- not: (takeS s other.toNat).2.2
                refine wp_skip ?_
                refine t_norm (hJ70 _ _ ⟨s, hH64, ((take_false h86).symm), e52_0, e52_1, e52_2, e52_3, e52_8, e52_9, e52_10, e52_11, rfl, rfl, rfl, rfl, rfl, rfl, e52_27, e52_41⟩)
            refine wp_seq_k fun K87 hK87 => ?_
            refine c_region ?_
            refine s_op (o_move (v := (.bool bo)) e24_10 ?_)
            refine s_op (o_not (b := false) ((rfl : _ = _).trans (congrArg Value.bool h32)) ?_)
            refine s_nil ?_
            refine t_norm (hK87 _ _ ?_)
            refine c_true rfl rfl ?_
            refine c_region ?_
            refine s_op (o_assign (v := (S ([] : List UInt8))) rfl ?_)
            refine s_nil ?_
            refine t_norm (hJ54 _ _ ⟨([] : List UInt8), hH27, ((put_none (hbf h32)).symm), e24_0, e24_1, e24_2, e24_3, e24_8, rfl, e24_10, e24_11, e24_27, rfl⟩)
        · -- not: (k : Int) < ((l.length : Nat) : Int)
          refine s_off (b' := false) 39 rfl (congrArg Value.bool (decide_eq_false h31)) rfl ?_
          refine s_op (o_pick_f (u := (.bool false)) ((rfl : _ = _).trans (congrArg Value.bool (decide_eq_false h31))) rfl ?_)
          refine s_nil ?_
          refine t_norm (hK30 _ _ ?_)
          refine c_false rfl rfl ?_
          refine wp_exit ?_
          refine t_exit (t_exit (x_in (?_)))
          refine t_norm (hK22 _ _ ?_)
          refine wp_seq_k fun K88 hK88 => ?_
          let J90 : (Nat → Value) → World → Prop := fun r__ w__ => ∃ (w2 : List UInt8), Has E w__ [R] ∧ (w2 = putS size.toNat l) ∧ r__ 0 = (.int .i64 size) ∧ r__ 1 = v ∧ r__ 2 = (S s) ∧ r__ 3 = (.int .i64 other) ∧ r__ 8 = (.bool false) ∧ r__ 9 = (S w2) ∧ r__ 10 = (.bool bo) ∧ r__ 11 = (.int .i64 (k : Int)) ∧ r__ 27 = (.bool (decide (100 < (s.length : Int)))) ∧ r__ 41 = (.bool false)
          have hJ91 : ∀ r w, J90 r w → K88 (Go.Q.fr 107 r) w := by
            rintro r94 w92 ⟨w2, hH93, hw2, e89_0, e89_1, e89_2, e89_3, e89_8, e89_9, e89_10, e89_11, e89_27, e89_41⟩
            refine hK88 _ _ ?_
            refine wp_seq_k fun K95 hK95 => ?_
            refine c_region ?_
            refine s_op (o_move (v := (S s)) e89_2 ?_)
            refine s_op (o_move (v := (.int .i64 other)) e89_3 ?_)
            refine s_op (o_callf (vs := #[(S s), (.int .i64 other)]) ca29 rfl (args2 rfl rfl) (take_z hH93.all other s (by omega)) ?_)
            rintro _ w98 ⟨rfl, hX96⟩
            refine ⟨_, rfl, ?_⟩
            have hH97 := hX96.of_all
            refine s_op (o_move (v := (.tuple #[(.int .i64 ((takeS s other.toNat).1)), (S ((takeS s other.toNat).2.1)), (.bool ((takeS s other.toNat).2.2))])) rfl ?_)
            refine s_op (o_extract (v := (.int .i64 ((takeS s other.toNat).1))) rfl rfl ?_)
            refine s_op (o_extract (v := (S ((takeS s other.toNat).2.1))) rfl rfl ?_)
            refine s_op (o_extract (v := (.bool ((takeS s other.toNat).2.2))) rfl rfl ?_)
            refine s_op (o_assign (v := (.int .i64 ((takeS s other.toNat).1))) rfl ?_)
            refine s_op (o_assign (v := (S ((takeS s other.toNat).2.1))) rfl ?_)
            refine s_op (o_assign (v := (.bool ((takeS s other.toNat).2.2))) rfl ?_)
            refine s_nil ?_
            refine t_norm (hK95 _ _ ?_)
            refine wp_seq_k fun K99 hK99 => ?_
            refine c_region ?_
            refine s_op (o_move (v := (S s)) e89_2 ?_)
            refine s_op (o_move (v := (.int .i64 other)) e89_3 ?_)
            refine s_op (o_callf (vs := #[(S s), (.int .i64 other)]) ca30 rfl (args2 rfl rfl) (refTake_z hH97.all other s (by omega)) ?_)
            rintro _ w102 ⟨rfl, hX100⟩
            refine ⟨_, rfl, ?_⟩
            have hH101 := hX100.of_all
            refine s_op (o_move (v := (.tuple #[(.int .i64 ((takeS s other.toNat).1)), (.bool ((takeS s other.toNat).2.2))])) rfl ?_)
            refine s_op (o_extract (v := (.int .i64 ((takeS s other.toNat).1))) rfl rfl ?_)
            refine s_op (o_extract (v := (.bool ((takeS s other.toNat).2.2))) rfl rfl ?_)
            refine s_op (o_assign (v := (.int .i64 ((takeS s other.toNat).1))) rfl ?_)
            refine s_op (o_assign (v := (.bool ((takeS s other.toNat).2.2))) rfl ?_)
            refine s_nil ?_
            refine t_norm (hK99 _ _ ?_)
            refine wp_seq_k fun K103 hK103 => ?_
            refine c_region ?_
            refine s_op (o_move (v := (S s)) e89_2 ?_)
            refine s_op (o_assign (v := (S s)) rfl ?_)
            refine s_nil ?_
            refine t_norm (hK103 _ _ ?_)
            refine wp_seq_k fun K104 hK104 => ?_
            let J106 : (Nat → Value) → World → Prop := fun r__ w__ => ∃ (lf : List UInt8), Has E w__ [R] ∧ (lf = (takeS s other.toNat).2.1) ∧ r__ 0 = (.int .i64 size) ∧ r__ 1 = v ∧ r__ 2 = (S s) ∧ r__ 3 = (.int .i64 other) ∧ r__ 8 = (.bool false) ∧ r__ 9 = (S w2) ∧ r__ 10 = (.bool bo) ∧ r__ 11 = (.int .i64 (k : Int)) ∧ r__ 14 = (.int .i64 ((takeS s other.toNat).1)) ∧ r__ 15 = (S ((takeS s other.toNat).2.1)) ∧ r__ 16 = (.bool ((takeS s other.toNat).2.2)) ∧ r__ 17 = (.int .i64 ((takeS s other.toNat).1)) ∧ r__ 18 = (.bool ((takeS s other.toNat).2.2)) ∧ r__ 19 = (S lf) ∧ r__ 27 = (.bool (decide (100 < (s.length : Int)))) ∧ r__ 41 = (.bool false)
            have hJ107 : ∀ r w, J106 r w → K104 (Go.Q.fr 107 r) w := by
              rintro r110 w108 ⟨lf, hH109, hlf, e105_0, e105_1, e105_2, e105_3, e105_8, e105_9, e105_10, e105_11, e105_14, e105_15, e105_16, e105_17, e105_18, e105_19, e105_27, e105_41⟩
              refine hK104 _ _ ?_
              refine wp_seq_k fun K111 hK111 => ?_
              refine c_region ?_
              refine s_op (o_move (v := (.int .i64 size)) e105_0 ?_)
              refine s_op (o_move (v := v) e105_1 ?_)
              refine s_op (o_callf (vs := #[(.int .i64 size), v]) ca26 rfl (args2 rfl rfl) (put_z hH109.all size (l := l) (hv.mono (seg_sub 0 rfl)) (by omega)) ?_)
              rintro _ w114 ⟨rfl, hX112⟩
              refine ⟨_, rfl, ?_⟩
              have hH113 := hX112.of_all
              refine s_op (o_move (v := (S w2)) e105_9 ?_)
              refine s_op (o_seql (a := putS size.toNat l) (b := w2) rfl rfl ?_)
              refine s_op (o_move (v := (.bool (decide (putS size.toNat l = w2)))) rfl ?_)
              by_cases h115 : putS size.toNat l = w2
              · -- putS size.toNat l = w2
                refine s_on 89 rfl (congrArg Value.bool (decide_eq_true h115)) (o_move (v := (.int .i64 ((takeS s other.toNat).1))) e105_14 ?_)
                refine s_on 89 rfl (congrArg Value.bool (decide_eq_true h115)) (o_move (v := (.int .i64 ((takeS s other.toNat).1))) e105_17 ?_)
                refine s_on 89 rfl (congrArg Value.bool (decide_eq_true h115)) (o_eql (a := (takeS s other.toNat).1) (b := (takeS s other.toNat).1) rfl rfl ?_)
                refine s_op (o_pick_t (u := (.bool (decide ((takeS s other.toNat).1 = (takeS s other.toNat).1)))) ((rfl : _ = _).trans (congrArg Value.bool (decide_eq_true h115))) rfl ?_)
                refine s_op (o_move (v := (.bool (decide ((takeS s other.toNat).1 = (takeS s other.toNat).1)))) rfl ?_)
                by_cases h116 : (takeS s other.toNat).1 = (takeS s other.toNat).1
                · -- (takeS s other.toNat).1 = (takeS s other.toNat).1
                  refine s_on 94 rfl (congrArg Value.bool (decide_eq_true h116)) (o_move (v := (.bool ((takeS s other.toNat).2.2))) e105_16 ?_)
                  refine s_on 94 rfl (congrArg Value.bool (decide_eq_true h116)) (o_move (v := (.bool ((takeS s other.toNat).2.2))) e105_18 ?_)
                  refine s_on 94 rfl (congrArg Value.bool (decide_eq_true h116)) (o_eqlb Try.underlying4 rfl rfl ?_)
                  refine s_op (o_pick_t (u := (.bool (((takeS s other.toNat).2.2) == ((takeS s other.toNat).2.2)))) ((rfl : _ = _).trans (congrArg Value.bool (decide_eq_true h116))) rfl ?_)
                  refine s_op (o_move (v := (.bool (((takeS s other.toNat).2.2) == ((takeS s other.toNat).2.2)))) rfl ?_)
                  rcases Bool.eq_false_or_eq_true (((takeS s other.toNat).2.2) == ((takeS s other.toNat).2.2)) with h117 | h117
                  · -- ((takeS s other.toNat).2.2) == ((takeS s other.toNat).2.2)
                    refine s_on 99 rfl (congrArg Value.bool h117) (o_move (v := (S ((takeS s other.toNat).2.1))) e105_15 ?_)
                    refine s_on 99 rfl (congrArg Value.bool h117) (o_move (v := (S lf)) e105_19 ?_)
                    refine s_on 99 rfl (congrArg Value.bool h117) (o_seql (a := (takeS s other.toNat).2.1) (b := lf) rfl rfl ?_)
                    refine s_op (o_pick_t (u := (.bool (decide ((takeS s other.toNat).2.1 = lf)))) ((rfl : _ = _).trans (congrArg Value.bool h117)) rfl ?_)
                    refine s_op (o_move (v := (.bool (decide ((takeS s other.toNat).2.1 = lf)))) rfl ?_)
                    by_cases h118 : (takeS s other.toNat).2.1 = lf
                    · -- (takeS s other.toNat).2.1 = lf
                      refine s_on 104 rfl (congrArg Value.bool (decide_eq_true h118)) (o_callf (vs := #[]) ca27 rfl (args0) (awake_c hH113.all) ?_)
                      rintro _ w121 ⟨rfl, hX119⟩
                      refine ⟨_, rfl, ?_⟩
                      have hH120 := hX119.of_all
                      refine s_op (o_pick_t (u := (.bool true)) ((rfl : _ = _).trans (congrArg Value.bool (decide_eq_true h118))) rfl ?_)
                      refine s_op (o_assign (v := (.bool true)) rfl ?_)
                      refine s_nil ?_
                      refine t_norm (hK111 _ _ ?_)
                      refine wp_ret ?_
                      refine c_ret1 Try.results6 (v := (.bool true)) rfl ?_
                      exact ⟨rfl, hH120⟩
                    · -- not: (takeS s other.toNat).2.1 = lf
                      exact absurd hlf.symm h118
                  · -- not: ((takeS s other.toNat).2.2) == ((takeS s other.toNat).2.2)
                    simp at h117
                · -- not: (takeS s other.toNat).1 = (takeS s other.toNat).1
                  exact absurd rfl h116
              · -- not: putS size.toNat l = w2
                exact absurd hw2.symm h115
            refine wp_seq_k fun K122 hK122 => ?_
            refine c_region ?_
            refine s_op (o_move (v := (.bool ((takeS s other.toNat).2.2))) rfl ?_)
            refine s_nil ?_
            refine t_norm (hK122 _ _ ?_)
            refine c_condb rfl (fun h123 => ?_) (fun h123 => ?_)
            · -- (takeS s other.toNat).2.2
              have ht_ := take_true h123
              refine c_region ?_
              refine s_op (o_move (v := (S s)) e89_2 ?_)
              refine s_op (o_move (v := (.int .i64 other)) e89_3 ?_)
              refine s_op (o_ssl_l Try.underlying9 rfl rfl (by omega) (by omega) ?_)
              refine s_op (o_assign (v := (S (s.drop (other).toNat))) rfl ?_)
              refine s_nil ?_
              refine t_norm (hJ107 _ _ ⟨(s.drop (other).toNat), hH101, ((take_true h123).2.2.symm), e89_0, e89_1, e89_2, e89_3, e89_8, e89_9, e89_10, e89_11, rfl, rfl, rfl, rfl, rfl, rfl, e89_27, e89_41⟩)
            · -- not: (takeS s other.toNat).2.2
              refine wp_skip ?_
              refine t_norm (hJ107 _ _ ⟨s, hH101, ((take_false h123).symm), e89_0, e89_1, e89_2, e89_3, e89_8, e89_9, e89_10, e89_11, rfl, rfl, rfl, rfl, rfl, rfl, e89_27, e89_41⟩)
          refine wp_seq_k fun K124 hK124 => ?_
          refine c_region ?_
          refine s_op (o_move (v := (.bool bo)) e24_10 ?_)
          refine s_op (o_not rfl ?_)
          refine s_nil ?_
          refine t_norm (hK124 _ _ ?_)
          refine c_condb rfl (fun h125 => ?_) (fun h125 => ?_)
          · -- !bo
            have h125_n : bo = false := by simpa using h125
            refine c_region ?_
            refine s_op (o_assign (v := (S ([] : List UInt8))) rfl ?_)
            refine s_nil ?_
            refine t_norm (hJ91 _ _ ⟨([] : List UInt8), hH27, ((put_none (hbf h125_n)).symm), e24_0, e24_1, e24_2, e24_3, e24_8, rfl, e24_10, e24_11, e24_27, rfl⟩)
          · -- not: !bo
            have h125_n : bo = true := by simpa using h125
            refine wp_skip ?_
            refine t_norm (hJ91 _ _ ⟨want, hH27, ((putw_t hbt h125_n (by omega))), e24_0, e24_1, e24_2, e24_3, e24_8, e24_9, e24_10, e24_11, e24_27, rfl⟩)
      refine c_region ?_
      refine s_op (o_move (v := (.int .i64 size)) rfl ?_)
      refine s_op (o_geq (a := size) (b := 1) rfl rfl ?_)
      refine s_op (o_move (v := (.bool (decide (1 ≤ size)))) rfl ?_)
      by_cases h126 : 1 ≤ size
      · -- 1 ≤ size
        refine s_on 31 rfl (congrArg Value.bool (decide_eq_true h126)) (o_move (v := (.int .i64 size)) rfl ?_)
        refine s_on 31 rfl (congrArg Value.bool (decide_eq_true h126)) (o_leq (a := size) (b := 8) rfl rfl ?_)
        refine s_op (o_pick_t (u := (.bool (decide (size ≤ 8)))) ((rfl : _ = _).trans (congrArg Value.bool (decide_eq_true h126))) rfl ?_)
        refine s_op (o_assign (v := (.bool (decide (size ≤ 8)))) rfl ?_)
        refine s_nil ?_
        refine t_norm (hJ18 _ _ ⟨(decide (size ≤ 8)), hH, (by intro g; (simp_all <;> omega)), (by intro g; (simp_all <;> omega)), rfl, rfl, rfl, rfl, rfl, rfl, rfl, rfl⟩)
      · -- not: 1 ≤ size
        refine s_off (b' := false) 31 rfl (congrArg Value.bool (decide_eq_false h126)) rfl ?_
        refine s_off (b' := false) 31 rfl (congrArg Value.bool (decide_eq_false h126)) rfl ?_
        refine s_op (o_pick_f (u := (.bool false)) ((rfl : _ = _).trans (congrArg Value.bool (decide_eq_false h126))) rfl ?_)
        refine s_op (o_assign (v := (.bool false)) rfl ?_)
        refine s_nil ?_
        refine t_norm (hJ18 _ _ ⟨false, hH, (by intro g; (simp_all <;> omega)), (by intro g; (simp_all <;> omega)), rfl, rfl, rfl, rfl, rfl, rfl, rfl, rfl⟩)
end Go.Q
