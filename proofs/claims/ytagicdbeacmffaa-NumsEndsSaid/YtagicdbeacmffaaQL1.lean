/-
  Parts of a walk: what functions of the program compute, each told by a theorem.
-/
import Derived.Test.YtagicdbeacmffaaQI
import Derived.Test.YtagicdbeacmffaaQS5
namespace Go.Q
set_option linter.unusedSimpArgs false
open Go.Proofs
set_option linter.unusedVariables false
set_option maxRecDepth 100000
attribute [local irreducible] wpList OK Code.wp
set_option maxHeartbeats 4000000 in
theorem NumsEnds_c {E w : World} {R : List Hp} (hH : Has E w [R]) (a : Int) {v : Value} {l : List Int} (hv : Ints R v l) :
    Calls Try.prog 8 #[(.int .i64 a), v] w fun e w' => e = .returned (.bool true) ∧ Has E w' [R] := by
  have hn := hv.le
  refine c_enter (args := [(.int .i64 a), v]) Try.func8 rfl Try.ntmps8 (by simp) ?_
  refine wp_seq_k fun K1 hK1 => ?_
  refine c_region ?_
  refine s_op (o_assign (v := (.bool false)) rfl ?_)
  refine s_nil ?_
  refine t_norm (hK1 _ _ ?_)
  refine wp_seq_k fun K2 hK2 => ?_
  refine wp_seq_k fun K3 hK3 => ?_
  refine c_region ?_
  refine s_op (o_move (v := v) rfl ?_)
  refine s_op (o_lenS Try.underlying28 rfl hv ?_)
  refine s_op (o_gtr (a := ((l.length : Nat) : Int)) (b := 100) rfl rfl ?_)
  refine s_nil ?_
  refine t_norm (hK3 _ _ ?_)
  refine c_cond rfl (fun h4 => ?_) (fun h4 => ?_)
  · -- 100 < ((l.length : Nat) : Int)
    refine wp_seq_k fun K5 hK5 => ?_
    refine c_region ?_
    refine s_op (o_callf (vs := #[]) ca27 rfl (args0) (awake_c hH.all) ?_)
    rintro _ w8 ⟨rfl, hX6⟩
    refine ⟨_, rfl, ?_⟩
    have hH7 := hX6.of_all
    refine s_op (o_assign (v := (.bool true)) rfl ?_)
    refine s_nil ?_
    refine t_norm (hK5 _ _ ?_)
    refine wp_ret ?_
    refine t_ret (c_ret1 Try.results8 (v := (.bool true)) rfl ?_)
    exact ⟨rfl, hH7⟩
  · -- not: 100 < ((l.length : Nat) : Int)
    refine wp_skip ?_
    refine t_norm (hK2 _ _ ?_)
    refine wp_seq_k fun K9 hK9 => ?_
    refine c_region ?_
    refine s_op (o_move (v := (.int .i64 a)) rfl ?_)
    refine s_op (o_move (v := v) rfl ?_)
    refine s_op (o_callf (vs := #[(.int .i64 a), v]) ca31 rfl (args2 rfl rfl) (most_c hH.all (l := l) a (hv.mono (seg_sub 0 rfl))) ?_)
    rintro _ w12 ⟨rfl, hX10⟩
    refine ⟨_, rfl, ?_⟩
    have hH11 := hX10.of_all
    refine s_op (o_move (v := (.int .i64 a)) rfl ?_)
    refine s_op (o_move (v := v) rfl ?_)
    refine s_op (o_callf (vs := #[(.int .i64 a), v]) ca32 rfl (args2 rfl rfl) (least_c hH11.all (l := l) a (hv.mono (seg_sub 0 rfl))) ?_)
    rintro _ w15 ⟨rfl, hX13⟩
    refine ⟨_, rfl, ?_⟩
    have hH14 := hX13.of_all
    refine s_op (o_assign (v := (.int .i64 (l.foldl max a))) rfl ?_)
    refine s_op (o_assign (v := (.int .i64 (l.foldl min a))) rfl ?_)
    refine s_nil ?_
    refine t_norm (hK9 _ _ ?_)
    refine wp_seq_k fun K16 hK16 => ?_
    refine c_region ?_
    refine s_op (o_move (v := (.int .i64 (l.foldl max a))) rfl ?_)
    refine s_op (o_move (v := (.int .i64 a)) rfl ?_)
    refine s_op (o_eql (a := l.foldl max a) (b := a) rfl rfl ?_)
    refine s_op (o_move (v := (.int .i64 (l.foldl min a))) rfl ?_)
    refine s_op (o_move (v := (.int .i64 a)) rfl ?_)
    refine s_op (o_eql (a := l.foldl min a) (b := a) rfl rfl ?_)
    refine s_op (o_assign (v := (.bool (decide (l.foldl max a = a)))) rfl ?_)
    refine s_op (o_assign (v := (.bool (decide (l.foldl min a = a)))) rfl ?_)
    refine s_nil ?_
    refine t_norm (hK16 _ _ ?_)
    refine wp_seq_k fun K17 hK17 => ?_
    refine c_region ?_
    refine s_op (o_assign (v := (.int .i64 0)) rfl ?_)
    refine s_nil ?_
    refine t_norm (hK17 _ _ ?_)
    refine wp_seq_k fun K18 hK18 => ?_
    refine c_region ?_
    refine s_op (o_assign (v := (.bool false)) rfl ?_)
    refine s_nil ?_
    refine t_norm (hK18 _ _ ?_)
    refine wp_seq_k fun K19 hK19 => ?_
    refine wp_seq_k fun K20 hK20 => ?_
    refine c_region ?_
    refine s_op (o_assign (v := (.int .i64 0)) rfl ?_)
    refine s_nil ?_
    refine t_norm (hK20 _ _ ?_)
    refine wp_block ?_
    let I22 : Nat → (Nat → Value) → World → Prop := fun n r w => ∃ (k : Nat) (bx : Bool) (by_ : Bool) (bo : Bool) (sm : Int), n = l.length - k ∧ Has E w [R] ∧ (k ≤ l.length) ∧ (l.foldl max a = a ∨ l.foldl max a ∈ l.take k → bx = true) ∧ (l.foldl min a = a ∨ l.foldl min a ∈ l.take k → by_ = true) ∧ (0 ≤ sm) ∧ (sm ≤ 9223372036854775807) ∧ (bo = true → sumS 0 l = 9223372036854775807) ∧ (bo = false → sumS 0 l = sumS sm (l.drop k)) ∧ r 0 = (.int .i64 a) ∧ r 1 = v ∧ r 5 = (.int .i64 (l.foldl max a)) ∧ r 6 = (.int .i64 (l.foldl min a)) ∧ r 7 = (.bool bx) ∧ r 8 = (.bool by_) ∧ r 9 = (.int .i64 sm) ∧ r 10 = (.bool bo) ∧ r 11 = (.int .i64 (k : Int)) ∧ r 14 = (.bool (decide (100 < ((l.length : Nat) : Int))))
    refine c_loop I22 _ ⟨0, (decide (l.foldl max a = a)), (decide (l.foldl min a = a)), false, 0, rfl, hH14, Nat.zero_le _, (by simp), (by simp), (by omega), (by omega), fun g => absurd g (by decide), fun _ => rfl, rfl, rfl, rfl, rfl, rfl, rfl, rfl, rfl, rfl, rfl⟩ ?_
    rintro n_ r25 w23 ⟨k, bx, by_, bo, sm, rfl, hH24, hk, hbx, hby, hs0, hs1, ho1, ho2, e21_0, e21_1, e21_5, e21_6, e21_7, e21_8, e21_9, e21_10, e21_11, e21_14⟩
    refine wp_seq_k fun K26 hK26 => ?_
    refine wp_seq_k fun K27 hK27 => ?_
    refine c_region ?_
    refine s_op (o_move (v := (.int .i64 (k : Int))) e21_11 ?_)
    refine s_op (o_move (v := v) e21_1 ?_)
    refine s_op (o_lenS Try.underlying28 rfl hv ?_)
    refine s_op (o_lss (a := (k : Int)) (b := ((l.length : Nat) : Int)) rfl rfl ?_)
    refine s_nil ?_
    refine t_norm (hK27 _ _ ?_)
    refine c_cond rfl (fun h28 => ?_) (fun h28 => ?_)
    · -- (k : Int) < ((l.length : Nat) : Int)
      refine wp_skip ?_
      refine t_norm (hK26 _ _ ?_)
      refine wp_seq_k fun K29 hK29 => ?_
      let J31 : (Nat → Value) → World → Prop := fun r w => ∃ (bx3 : Bool) (by3 : Bool) (bo2 : Bool) (sm2 : Int), Has E w [R] ∧ (l.foldl max a = a ∨ l.foldl max a ∈ l.take (k + 1) → bx3 = true) ∧ (l.foldl min a = a ∨ l.foldl min a ∈ l.take (k + 1) → by3 = true) ∧ (0 ≤ sm2) ∧ (sm2 ≤ 9223372036854775807) ∧ (bo2 = true → sumS 0 l = 9223372036854775807) ∧ (bo2 = false → sumS 0 l = sumS sm2 (l.drop (k + 1))) ∧ r 0 = (.int .i64 a) ∧ r 1 = v ∧ r 5 = (.int .i64 (l.foldl max a)) ∧ r 6 = (.int .i64 (l.foldl min a)) ∧ r 7 = (.bool bx3) ∧ r 8 = (.bool by3) ∧ r 9 = (.int .i64 sm2) ∧ r 10 = (.bool bo2) ∧ r 11 = (.int .i64 (k : Int)) ∧ r 14 = (.bool (decide (100 < ((l.length : Nat) : Int)))) ∧ r 31 = (.bool (decide ((k : Int) < ((l.length : Nat) : Int))))
      have hJ32 : ∀ r w, J31 r w → K29 (Go.Q.fr 113 r) w := by
        rintro r35 w33 ⟨bx3, by3, bo2, sm2, hH34, hbx3, hby3, hs20, hs21, ho21, ho22, e30_0, e30_1, e30_5, e30_6, e30_7, e30_8, e30_9, e30_10, e30_11, e30_14, e30_31⟩
        refine hK29 _ _ ?_
        refine c_region ?_
        refine s_op (o_move (v := (.int .i64 (k : Int))) e30_11 ?_)
        refine s_op (o_add (a := (k : Int)) (b := 1) rfl rfl (w64 (by omega) (by omega)) ?_)
        refine s_op (o_assign (v := (.int .i64 ((k : Int) + 1))) rfl ?_)
        refine s_nil ?_
        refine t_norm ⟨l.length - (k + 1), _, rfl, ?_, ?_⟩
        · omega
        · exact ⟨(k + 1), bx3, by3, bo2, sm2, rfl, hH34, (by omega), (hbx3), (hby3), (by omega), (by omega), (ho21), (ho22), e30_0, e30_1, e30_5, e30_6, e30_7, e30_8, e30_9, e30_10, rfl, e30_14⟩
      refine wp_block ?_
      refine wp_seq_k fun K36 hK36 => ?_
      let J38 : (Nat → Value) → World → Prop := fun r w => ∃ (bx2 : Bool), Has E w [R] ∧ (l.foldl max a = a ∨ l.foldl max a ∈ l.take (k + 1) → bx2 = true) ∧ r 0 = (.int .i64 a) ∧ r 1 = v ∧ r 5 = (.int .i64 (l.foldl max a)) ∧ r 6 = (.int .i64 (l.foldl min a)) ∧ r 7 = (.bool bx2) ∧ r 8 = (.bool by_) ∧ r 9 = (.int .i64 sm) ∧ r 10 = (.bool bo) ∧ r 11 = (.int .i64 (k : Int)) ∧ r 14 = (.bool (decide (100 < ((l.length : Nat) : Int)))) ∧ r 31 = (.bool (decide ((k : Int) < ((l.length : Nat) : Int))))
      have hJ39 : ∀ r w, J38 r w → K36 (Go.Q.fr 113 r) w := by
        rintro r42 w40 ⟨bx2, hH41, hbx2, e37_0, e37_1, e37_5, e37_6, e37_7, e37_8, e37_9, e37_10, e37_11, e37_14, e37_31⟩
        refine hK36 _ _ ?_
        refine wp_seq_k fun K43 hK43 => ?_
        let J45 : (Nat → Value) → World → Prop := fun r w => ∃ (by_2 : Bool), Has E w [R] ∧ (l.foldl min a = a ∨ l.foldl min a ∈ l.take (k + 1) → by_2 = true) ∧ r 0 = (.int .i64 a) ∧ r 1 = v ∧ r 5 = (.int .i64 (l.foldl max a)) ∧ r 6 = (.int .i64 (l.foldl min a)) ∧ r 7 = (.bool bx2) ∧ r 8 = (.bool by_2) ∧ r 9 = (.int .i64 sm) ∧ r 10 = (.bool bo) ∧ r 11 = (.int .i64 (k : Int)) ∧ r 14 = (.bool (decide (100 < ((l.length : Nat) : Int)))) ∧ r 31 = (.bool (decide ((k : Int) < ((l.length : Nat) : Int))))
        have hJ46 : ∀ r w, J45 r w → K43 (Go.Q.fr 113 r) w := by
          rintro r49 w47 ⟨by_2, hH48, hby_2, e44_0, e44_1, e44_5, e44_6, e44_7, e44_8, e44_9, e44_10, e44_11, e44_14, e44_31⟩
          refine hK43 _ _ ?_
          refine wp_seq_k fun K50 hK50 => ?_
          refine wp_seq_k fun K51 hK51 => ?_
          refine c_region ?_
          refine s_op (o_move (v := v) e44_1 ?_)
          refine s_op (o_move (v := (.int .i64 (k : Int))) e44_11 ?_)
          obtain ⟨x55, hx56⟩ : ∃ x, l[((k : Int)).toNat]? = some x := get_some (by omega)
          refine s_op (o_index1 Try.underlying28 ti3 rfl hv rfl (by omega) hx56 fun b52 o53 hc54 => ?_)
          refine s_op (o_load1 (v := (.int .i64 x55)) Try.underlying3 rfl rfl hH48 (seg_sub 0 rfl) hc54 ?_)
          refine s_op (o_move (v := (.int .i64 (l.foldl max a))) e44_5 ?_)
          refine s_op (o_gtr (a := x55) (b := l.foldl max a) rfl rfl ?_)
          refine s_op (o_move (v := (.bool (decide (l.foldl max a < x55)))) rfl ?_)
          by_cases h57 : l.foldl max a < x55
          · -- l.foldl max a < x55
            have := (fold_max_le l a).2 x55 (List.mem_of_getElem? hx56); exfalso; omega
          · -- not: l.foldl max a < x55
            refine s_on 58 rfl (congrArg Value.bool (decide_eq_false h57)) (o_move (v := v) e44_1 ?_)
            refine s_on 58 rfl (congrArg Value.bool (decide_eq_false h57)) (o_move (v := (.int .i64 (k : Int))) e44_11 ?_)
            refine s_on 58 rfl (congrArg Value.bool (decide_eq_false h57)) (o_index1 Try.underlying28 ti3 rfl hv rfl (by omega) hx56 fun b58 o59 hc60 => ?_)
            refine s_on 58 rfl (congrArg Value.bool (decide_eq_false h57)) (o_load1 (v := (.int .i64 x55)) Try.underlying3 rfl rfl hH48 (seg_sub 0 rfl) hc60 ?_)
            refine s_on 58 rfl (congrArg Value.bool (decide_eq_false h57)) (o_move (v := (.int .i64 (l.foldl min a))) e44_6 ?_)
            refine s_on 58 rfl (congrArg Value.bool (decide_eq_false h57)) (o_lss (a := x55) (b := l.foldl min a) rfl rfl ?_)
            refine s_op (o_pick_f (u := (.bool (decide (x55 < l.foldl min a)))) ((rfl : _ = _).trans (congrArg Value.bool (decide_eq_false h57))) rfl ?_)
            refine s_nil ?_
            refine t_norm (hK51 _ _ ?_)
            refine c_cond rfl (fun h61 => ?_) (fun h61 => ?_)
            · -- x55 < l.foldl min a
              have := (fold_min_le l a).2 x55 (List.mem_of_getElem? hx56); exfalso; omega
            · -- not: x55 < l.foldl min a
              refine wp_skip ?_
              refine t_norm (hK50 _ _ ?_)
              refine wp_seq_k fun K62 hK62 => ?_
              refine c_region ?_
              refine s_op (o_move (v := v) e44_1 ?_)
              refine s_op (o_move (v := (.int .i64 (k : Int))) e44_11 ?_)
              refine s_op (o_index1 Try.underlying28 ti3 rfl hv rfl (by omega) hx56 fun b63 o64 hc65 => ?_)
              refine s_op (o_load1 (v := (.int .i64 x55)) Try.underlying3 rfl rfl hH48 (seg_sub 0 rfl) hc65 ?_)
              refine s_op (o_gtr (a := x55) (b := 0) rfl rfl ?_)
              refine s_nil ?_
              refine t_norm (hK62 _ _ ?_)
              refine c_cond rfl (fun h66 => ?_) (fun h66 => ?_)
              · -- 0 < x55
                refine wp_seq_k fun K67 hK67 => ?_
                refine c_region ?_
                refine s_op (o_move (v := (.bool bo)) e44_10 ?_)
                refine s_op (o_move (v := (.bool bo)) rfl ?_)
                rcases Bool.eq_false_or_eq_true bo with h68 | h68
                · -- bo
                  refine s_off (b' := true) 72 rfl (congrArg Value.bool h68) rfl ?_
                  refine s_off (b' := true) 72 rfl (congrArg Value.bool h68) rfl ?_
                  refine s_off (b' := true) 72 rfl (congrArg Value.bool h68) rfl ?_
                  refine s_off (b' := true) 72 rfl (congrArg Value.bool h68) rfl ?_
                  refine s_off (b' := true) 72 rfl (congrArg Value.bool h68) rfl ?_
                  refine s_off (b' := true) 72 rfl (congrArg Value.bool h68) rfl ?_
                  refine s_off (b' := true) 72 rfl (congrArg Value.bool h68) rfl ?_
                  refine s_op (o_pick_t (u := (.bool true)) ((rfl : _ = _).trans (congrArg Value.bool h68)) rfl ?_)
                  refine s_op (o_assign (v := (.bool true)) rfl ?_)
                  refine s_nil ?_
                  refine t_norm (hK67 _ _ ?_)
                  refine wp_seq_k fun K69 hK69 => ?_
                  refine c_region ?_
                  refine s_op (o_move (v := (.bool true)) rfl ?_)
                  refine s_op (o_not rfl ?_)
                  simp only [Bool.not_true, Bool.not_false]
                  refine s_nil ?_
                  refine t_norm (hK69 _ _ ?_)
                  refine c_false rfl rfl ?_
                  refine wp_skip ?_
                  refine b_norm ?_
                  refine t_norm (hJ32 _ _ ⟨bx2, by_2, true, sm, hH48, (hbx2), (hby_2), (by omega), (by omega), (fun _ => ho1 h68), (fun g => absurd g (by decide)), e44_0, e44_1, e44_5, e44_6, e44_7, e44_8, e44_9, rfl, e44_11, e44_14, e44_31⟩)
                · -- not: bo
                  refine s_on 72 rfl (congrArg Value.bool h68) (o_move (v := v) e44_1 ?_)
                  refine s_on 72 rfl (congrArg Value.bool h68) (o_move (v := (.int .i64 (k : Int))) e44_11 ?_)
                  refine s_on 72 rfl (congrArg Value.bool h68) (o_index1 Try.underlying28 ti3 rfl hv rfl (by omega) hx56 fun b70 o71 hc72 => ?_)
                  refine s_on 72 rfl (congrArg Value.bool h68) (o_load1 (v := (.int .i64 x55)) Try.underlying3 rfl rfl hH48 (seg_sub 0 rfl) hc72 ?_)
                  refine s_on 72 rfl (congrArg Value.bool h68) (o_move (v := (.int .i64 sm)) e44_9 ?_)
                  refine s_on 72 rfl (congrArg Value.bool h68) (o_sub (a := 9223372036854775807) (b := sm) rfl rfl (w64 (by omega) (by omega)) ?_)
                  refine s_on 72 rfl (congrArg Value.bool h68) (o_gtr (a := x55) (b := 9223372036854775807 - sm) rfl rfl ?_)
                  refine s_op (o_pick_f (u := (.bool (decide (9223372036854775807 - sm < x55)))) ((rfl : _ = _).trans (congrArg Value.bool h68)) rfl ?_)
                  refine s_op (o_assign (v := (.bool (decide (9223372036854775807 - sm < x55)))) rfl ?_)
                  refine s_nil ?_
                  refine t_norm (hK67 _ _ ?_)
                  refine wp_seq_k fun K73 hK73 => ?_
                  refine c_region ?_
                  refine s_op (o_move (v := (.bool (decide (9223372036854775807 - sm < x55)))) rfl ?_)
                  refine s_op (o_not rfl ?_)
                  rw [not_dec]
                  refine s_nil ?_
                  refine t_norm (hK73 _ _ ?_)
                  refine c_cond rfl (fun h74 => ?_) (fun h74 => ?_)
                  · -- ¬ (9223372036854775807 - sm < x55)
                    refine c_region ?_
                    refine s_op (o_move (v := (.int .i64 sm)) e44_9 ?_)
                    refine s_op (o_move (v := v) e44_1 ?_)
                    refine s_op (o_move (v := (.int .i64 (k : Int))) e44_11 ?_)
                    refine s_op (o_index1 Try.underlying28 ti3 rfl hv rfl (by omega) hx56 fun b75 o76 hc77 => ?_)
                    refine s_op (o_load1 (v := (.int .i64 x55)) Try.underlying3 rfl rfl hH48 (seg_sub 0 rfl) hc77 ?_)
                    refine s_op (o_add (a := sm) (b := x55) rfl rfl (w64 (by omega) (by omega)) ?_)
                    refine s_op (o_assign (v := (.int .i64 (sm + x55))) rfl ?_)
                    refine s_nil ?_
                    refine b_norm ?_
                    refine t_norm (hJ32 _ _ ⟨bx2, by_2, (decide (9223372036854775807 - sm < x55)), (sm + x55), hH48, (hbx2), (hby_2), (by omega), (by omega), (fun g => absurd (of_decide_eq_true g) h74), (fun _ => sum_add (ho2 h68) hx56 h66 h74), e44_0, e44_1, e44_5, e44_6, e44_7, e44_8, rfl, rfl, e44_11, e44_14, e44_31⟩)
                  · -- not: ¬ (9223372036854775807 - sm < x55)
                    refine wp_skip ?_
                    refine b_norm ?_
                    refine t_norm (hJ32 _ _ ⟨bx2, by_2, (decide (9223372036854775807 - sm < x55)), sm, hH48, (hbx2), (hby_2), (by omega), (by omega), (fun _ => sum_over (ho2 h68) hx56 (Classical.not_not.1 h74)), (fun g => absurd (Classical.not_not.1 h74) (of_decide_eq_false g)), e44_0, e44_1, e44_5, e44_6, e44_7, e44_8, e44_9, rfl, e44_11, e44_14, e44_31⟩)
              · -- not: 0 < x55
                refine wp_skip ?_
                refine b_norm ?_
                refine t_norm (hJ32 _ _ ⟨bx2, by_2, bo, sm, hH48, (hbx2), (hby_2), (by omega), (by omega), (ho1), (fun g => sum_skip (ho2 g) hx56 h66 hs1), e44_0, e44_1, e44_5, e44_6, e44_7, e44_8, e44_9, e44_10, e44_11, e44_14, e44_31⟩)
        refine c_region ?_
        refine s_op (o_move (v := (.bool by_)) e37_8 ?_)
        refine s_op (o_move (v := (.bool by_)) rfl ?_)
        rcases Bool.eq_false_or_eq_true by_ with h78 | h78
        · -- by_
          refine s_off (b' := true) 44 rfl (congrArg Value.bool h78) rfl ?_
          refine s_off (b' := true) 44 rfl (congrArg Value.bool h78) rfl ?_
          refine s_off (b' := true) 44 rfl (congrArg Value.bool h78) rfl ?_
          refine s_off (b' := true) 44 rfl (congrArg Value.bool h78) rfl ?_
          refine s_off (b' := true) 44 rfl (congrArg Value.bool h78) rfl ?_
          refine s_off (b' := true) 44 rfl (congrArg Value.bool h78) rfl ?_
          refine s_op (o_pick_t (u := (.bool true)) ((rfl : _ = _).trans (congrArg Value.bool h78)) rfl ?_)
          refine s_op (o_assign (v := (.bool true)) rfl ?_)
          refine s_nil ?_
          refine t_norm (hJ46 _ _ ⟨true, hH41, (fun _ => rfl), e37_0, e37_1, e37_5, e37_6, e37_7, rfl, e37_9, e37_10, e37_11, e37_14, e37_31⟩)
        · -- not: by_
          refine s_on 44 rfl (congrArg Value.bool h78) (o_move (v := (.int .i64 (l.foldl min a))) e37_6 ?_)
          refine s_on 44 rfl (congrArg Value.bool h78) (o_move (v := v) e37_1 ?_)
          refine s_on 44 rfl (congrArg Value.bool h78) (o_move (v := (.int .i64 (k : Int))) e37_11 ?_)
          obtain ⟨x82, hx83⟩ : ∃ x, l[((k : Int)).toNat]? = some x := get_some (by omega)
          refine s_on 44 rfl (congrArg Value.bool h78) (o_index1 Try.underlying28 ti3 rfl hv rfl (by omega) hx83 fun b79 o80 hc81 => ?_)
          refine s_on 44 rfl (congrArg Value.bool h78) (o_load1 (v := (.int .i64 x82)) Try.underlying3 rfl rfl hH41 (seg_sub 0 rfl) hc81 ?_)
          refine s_on 44 rfl (congrArg Value.bool h78) (o_eql (a := l.foldl min a) (b := x82) rfl rfl ?_)
          refine s_op (o_pick_f (u := (.bool (decide (l.foldl min a = x82)))) ((rfl : _ = _).trans (congrArg Value.bool h78)) rfl ?_)
          refine s_op (o_assign (v := (.bool (decide (l.foldl min a = x82)))) rfl ?_)
          refine s_nil ?_
          refine t_norm (hJ46 _ _ ⟨(decide (l.foldl min a = x82)), hH41, (seen_step hby hx83 (by rintro (g | g) <;> simp_all)), e37_0, e37_1, e37_5, e37_6, e37_7, rfl, e37_9, e37_10, e37_11, e37_14, e37_31⟩)
      refine c_region ?_
      refine s_op (o_move (v := (.bool bx)) e21_7 ?_)
      refine s_op (o_move (v := (.bool bx)) rfl ?_)
      rcases Bool.eq_false_or_eq_true bx with h84 | h84
      · -- bx
        refine s_off (b' := true) 35 rfl (congrArg Value.bool h84) rfl ?_
        refine s_off (b' := true) 35 rfl (congrArg Value.bool h84) rfl ?_
        refine s_off (b' := true) 35 rfl (congrArg Value.bool h84) rfl ?_
        refine s_off (b' := true) 35 rfl (congrArg Value.bool h84) rfl ?_
        refine s_off (b' := true) 35 rfl (congrArg Value.bool h84) rfl ?_
        refine s_off (b' := true) 35 rfl (congrArg Value.bool h84) rfl ?_
        refine s_op (o_pick_t (u := (.bool true)) ((rfl : _ = _).trans (congrArg Value.bool h84)) rfl ?_)
        refine s_op (o_assign (v := (.bool true)) rfl ?_)
        refine s_nil ?_
        refine t_norm (hJ39 _ _ ⟨true, hH24, (fun _ => rfl), e21_0, e21_1, e21_5, e21_6, rfl, e21_8, e21_9, e21_10, e21_11, e21_14, rfl⟩)
      · -- not: bx
        refine s_on 35 rfl (congrArg Value.bool h84) (o_move (v := (.int .i64 (l.foldl max a))) e21_5 ?_)
        refine s_on 35 rfl (congrArg Value.bool h84) (o_move (v := v) e21_1 ?_)
        refine s_on 35 rfl (congrArg Value.bool h84) (o_move (v := (.int .i64 (k : Int))) e21_11 ?_)
        obtain ⟨x88, hx89⟩ : ∃ x, l[((k : Int)).toNat]? = some x := get_some (by omega)
        refine s_on 35 rfl (congrArg Value.bool h84) (o_index1 Try.underlying28 ti3 rfl hv rfl (by omega) hx89 fun b85 o86 hc87 => ?_)
        refine s_on 35 rfl (congrArg Value.bool h84) (o_load1 (v := (.int .i64 x88)) Try.underlying3 rfl rfl hH24 (seg_sub 0 rfl) hc87 ?_)
        refine s_on 35 rfl (congrArg Value.bool h84) (o_eql (a := l.foldl max a) (b := x88) rfl rfl ?_)
        refine s_op (o_pick_f (u := (.bool (decide (l.foldl max a = x88)))) ((rfl : _ = _).trans (congrArg Value.bool h84)) rfl ?_)
        refine s_op (o_assign (v := (.bool (decide (l.foldl max a = x88)))) rfl ?_)
        refine s_nil ?_
        refine t_norm (hJ39 _ _ ⟨(decide (l.foldl max a = x88)), hH24, (seen_step hbx hx89 (by rintro (g | g) <;> simp_all)), e21_0, e21_1, e21_5, e21_6, rfl, e21_8, e21_9, e21_10, e21_11, e21_14, rfl⟩)
    · -- not: (k : Int) < ((l.length : Nat) : Int)
      refine wp_exit ?_
      refine t_exit (t_exit (x_in (?_)))
      refine t_norm (hK19 _ _ ?_)
      refine wp_seq_k fun K90 hK90 => ?_
      let J92 : (Nat → Value) → World → Prop := fun r w => ∃ (sm3 : Int), Has E w [R] ∧ (sumS 0 l = sm3) ∧ r 0 = (.int .i64 a) ∧ r 1 = v ∧ r 5 = (.int .i64 (l.foldl max a)) ∧ r 6 = (.int .i64 (l.foldl min a)) ∧ r 7 = (.bool bx) ∧ r 8 = (.bool by_) ∧ r 9 = (.int .i64 sm3) ∧ r 10 = (.bool bo) ∧ r 11 = (.int .i64 (k : Int)) ∧ r 14 = (.bool (decide (100 < ((l.length : Nat) : Int)))) ∧ r 31 = (.bool (decide ((k : Int) < ((l.length : Nat) : Int))))
      have hJ93 : ∀ r w, J92 r w → K90 (Go.Q.fr 113 r) w := by
        rintro r96 w94 ⟨sm3, hH95, hsm3, e91_0, e91_1, e91_5, e91_6, e91_7, e91_8, e91_9, e91_10, e91_11, e91_14, e91_31⟩
        refine hK90 _ _ ?_
        refine wp_seq_k fun K97 hK97 => ?_
        refine c_region ?_
        refine s_op (o_move (v := (.bool bx)) e91_7 ?_)
        refine s_op (o_move (v := (.bool bx)) rfl ?_)
        rcases Bool.eq_false_or_eq_true bx with h98 | h98
        · -- bx
          refine s_on 91 rfl (congrArg Value.bool h98) (o_move (v := (.bool by_)) e91_8 ?_)
          refine s_op (o_pick_t (u := (.bool by_)) ((rfl : _ = _).trans (congrArg Value.bool h98)) rfl ?_)
          refine s_op (o_move (v := (.bool by_)) rfl ?_)
          rcases Bool.eq_false_or_eq_true by_ with h99 | h99
          · -- by_
            refine s_on 94 rfl (congrArg Value.bool h99) (o_move (v := (.int .i64 (l.foldl min a))) e91_6 ?_)
            refine s_on 94 rfl (congrArg Value.bool h99) (o_move (v := (.int .i64 a)) e91_0 ?_)
            refine s_on 94 rfl (congrArg Value.bool h99) (o_leq (a := l.foldl min a) (b := a) rfl rfl ?_)
            refine s_op (o_pick_t (u := (.bool (decide (l.foldl min a ≤ a)))) ((rfl : _ = _).trans (congrArg Value.bool h99)) rfl ?_)
            refine s_op (o_move (v := (.bool (decide (l.foldl min a ≤ a)))) rfl ?_)
            by_cases h100 : l.foldl min a ≤ a
            · -- l.foldl min a ≤ a
              refine s_on 99 rfl (congrArg Value.bool (decide_eq_true h100)) (o_move (v := (.int .i64 a)) e91_0 ?_)
              refine s_on 99 rfl (congrArg Value.bool (decide_eq_true h100)) (o_move (v := (.int .i64 (l.foldl max a))) e91_5 ?_)
              refine s_on 99 rfl (congrArg Value.bool (decide_eq_true h100)) (o_leq (a := a) (b := l.foldl max a) rfl rfl ?_)
              refine s_op (o_pick_t (u := (.bool (decide (a ≤ l.foldl max a)))) ((rfl : _ = _).trans (congrArg Value.bool (decide_eq_true h100))) rfl ?_)
              refine s_op (o_move (v := (.bool (decide (a ≤ l.foldl max a)))) rfl ?_)
              by_cases h101 : a ≤ l.foldl max a
              · -- a ≤ l.foldl max a
                refine s_on 104 rfl (congrArg Value.bool (decide_eq_true h101)) (o_move (v := v) e91_1 ?_)
                refine s_on 104 rfl (congrArg Value.bool (decide_eq_true h101)) (o_callf (vs := #[v]) ca33 rfl (args1 rfl) (sum_c hH95.all (l := l) (hv.mono (seg_sub 0 rfl))) ?_)
                rintro _ w104 ⟨rfl, hX102⟩
                refine ⟨_, rfl, ?_⟩
                have hH103 := hX102.of_all
                refine s_on 104 rfl (congrArg Value.bool (decide_eq_true h101)) (o_move (v := (.int .i64 sm3)) e91_9 ?_)
                refine s_on 104 rfl (congrArg Value.bool (decide_eq_true h101)) (o_eql (a := sumS 0 l) (b := sm3) rfl rfl ?_)
                refine s_op (o_pick_t (u := (.bool (decide (sumS 0 l = sm3)))) ((rfl : _ = _).trans (congrArg Value.bool (decide_eq_true h101))) rfl ?_)
                refine s_op (o_move (v := (.bool (decide (sumS 0 l = sm3)))) rfl ?_)
                by_cases h105 : sumS 0 l = sm3
                · -- sumS 0 l = sm3
                  refine s_on 110 rfl (congrArg Value.bool (decide_eq_true h105)) (o_callf (vs := #[]) ca27 rfl (args0) (awake_c hH103.all) ?_)
                  rintro _ w108 ⟨rfl, hX106⟩
                  refine ⟨_, rfl, ?_⟩
                  have hH107 := hX106.of_all
                  refine s_op (o_pick_t (u := (.bool true)) ((rfl : _ = _).trans (congrArg Value.bool (decide_eq_true h105))) rfl ?_)
                  refine s_op (o_assign (v := (.bool true)) rfl ?_)
                  refine s_nil ?_
                  refine t_norm (hK97 _ _ ?_)
                  refine wp_ret ?_
                  refine c_ret1 Try.results8 (v := (.bool true)) rfl ?_
                  exact ⟨rfl, hH107⟩
                · -- not: sumS 0 l = sm3
                  exact absurd hsm3 h105
              · -- not: a ≤ l.foldl max a
                have := (fold_max_le l a).1; exfalso; omega
            · -- not: l.foldl min a ≤ a
              have := (fold_min_le l a).1; exfalso; omega
          · -- not: by_
            have e : k = l.length := by omega
            rw [e, List.take_of_length_le (Nat.le_refl _)] at hby
            exact absurd (hby (fold_min_mem l a)) (by rw [h99]; decide)
        · -- not: bx
          have e : k = l.length := by omega
          rw [e, List.take_of_length_le (Nat.le_refl _)] at hbx
          exact absurd (hbx (fold_max_mem l a)) (by rw [h98]; decide)
      refine wp_seq_k fun K109 hK109 => ?_
      refine c_region ?_
      refine s_op (o_move (v := (.bool bo)) e21_10 ?_)
      refine s_nil ?_
      refine t_norm (hK109 _ _ ?_)
      refine c_condb rfl (fun h110 => ?_) (fun h110 => ?_)
      · -- bo
        refine c_region ?_
        refine s_op (o_assign (v := (.int .i64 9223372036854775807)) rfl ?_)
        refine s_nil ?_
        refine t_norm (hJ93 _ _ ⟨9223372036854775807, hH24, (ho1 h110), e21_0, e21_1, e21_5, e21_6, e21_7, e21_8, rfl, e21_10, e21_11, e21_14, rfl⟩)
      · -- not: bo
        refine wp_skip ?_
        refine t_norm (hJ93 _ _ ⟨sm, hH24, (sum_end (ho2 h110) (by omega)), e21_0, e21_1, e21_5, e21_6, e21_7, e21_8, e21_9, e21_10, e21_11, e21_14, rfl⟩)
end Go.Q
