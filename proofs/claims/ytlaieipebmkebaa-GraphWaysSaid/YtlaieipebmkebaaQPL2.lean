/-
  Parts of a walk: what functions of the program compute, each told by a theorem.
-/
import Derived.Test.YtlaieipebmkebaaQPA
set_option linter.unusedVariables false
set_option linter.unusedSimpArgs false
namespace Go.Q
open Go.Proofs
set_option linter.unusedVariables false
set_option maxRecDepth 100000
attribute [local irreducible] wpList OK Code.wp
set_option maxHeartbeats 4000000 in
theorem GraphWays_c {E w : World} {R : List Hp} (hH : Has E w [R]) {v : Value} {l : List (Int × Int)} (hv : Sl R 2 v l.length (l.flatMap tmC)) (a to : Int) :
    Calls Try.prog 4 #[v, (.int .i64 a), (.int .i64 to)] w fun e w' => e = .returned (.bool true) ∧ Has E w' [R] := by
  have hn_ := hv.le
  refine c_enter (args := [v, (.int .i64 a), (.int .i64 to)]) Try.func4 rfl Try.ntmps4 (by simp) ?_
  refine wp_seq_k fun K1 hK1 => ?_
  refine c_region ?_
  refine s_op (o_assign (v := (.bool false)) rfl ?_)
  refine s_nil ?_
  refine t_norm (hK1 _ _ ?_)
  refine wp_seq_k fun K2 hK2 => ?_
  refine c_region ?_
  refine s_op (o_move (v := v) rfl ?_)
  refine s_op (o_callf (vs := #[v]) ca7 rfl (args1 rfl) (edges_c hH.all (l := l) (hv.mono (seg_sub 0 rfl))) ?_)
  rintro _ w8 ⟨v3, s4, rfl, ho5, hX6⟩
  refine ⟨_, rfl, ?_⟩
  have hH7 : Has E w8 [s4, R] := hX6.of_all1
  refine s_op (o_move (v := (.tuple #[v3, (.bool (decide (((l.length : Nat) : Int) ≤ 40)))])) rfl ?_)
  refine s_op (o_extract (v := v3) rfl rfl ?_)
  refine s_op (o_extract (v := (.bool (decide (((l.length : Nat) : Int) ≤ 40)))) rfl rfl ?_)
  refine s_op (o_assign (v := v3) rfl ?_)
  refine s_op (o_assign (v := (.bool (decide (((l.length : Nat) : Int) ≤ 40)))) rfl ?_)
  refine s_nil ?_
  refine t_norm (hK2 _ _ ?_)
  refine wp_seq_k fun K9 hK9 => ?_
  refine wp_seq_k fun K10 hK10 => ?_
  refine c_region ?_
  refine s_op (o_move (v := (.bool (decide (((l.length : Nat) : Int) ≤ 40)))) rfl ?_)
  refine s_op (o_not2 (b := decide (((l.length : Nat) : Int) ≤ 40)) (b' := decide (¬ (((l.length : Nat) : Int) ≤ 40))) rfl not_dec ?_)
  refine s_nil ?_
  refine t_norm (hK10 _ _ ?_)
  refine c_cond rfl (fun h11 => ?_) (fun h11 => ?_)
  · -- ¬ (((l.length : Nat) : Int) ≤ 40)
    refine wp_seq_k fun K12 hK12 => ?_
    refine c_region ?_
    refine s_op (o_callf (vs := #[]) ca8 rfl (args0) (awake15_c hH7.all) ?_)
    rintro _ w15 ⟨rfl, hX13⟩
    refine ⟨_, rfl, ?_⟩
    have hH14 := hX13.of_all
    refine s_op (o_assign (v := (.bool true)) rfl ?_)
    refine s_nil ?_
    refine t_norm (hK12 _ _ ?_)
    refine wp_ret ?_
    refine t_ret (c_ret1 Try.results4  (v := (.bool true)) rfl ?_)
    have hH16 : Has E w15 [R] := (hH14.front 1 rfl).first 1 rfl
    exact ⟨rfl, hH16⟩
  · -- not: ¬ (((l.length : Nat) : Int) ≤ 40)
    have hl40 : l.length ≤ 40 := by omega
    have htk : l.take 40 = l := List.take_of_length_le hl40
    have htl : (l.take 40).length ≤ 40 := by rw [List.length_take]; omega
    refine wp_skip ?_
    refine t_norm (hK9 _ _ ?_)
    refine wp_seq_k fun K17 hK17 => ?_
    refine c_region ?_
    refine s_op (o_assign (v := (.slice none 0 0)) rfl ?_)
    refine s_nil ?_
    refine t_norm (hK17 _ _ ?_)
    refine wp_seq_k fun K18 hK18 => ?_
    refine wp_seq_k fun K19 hK19 => ?_
    refine c_region ?_
    refine s_op (o_assign (v := (.int .i64 0)) rfl ?_)
    refine s_nil ?_
    refine t_norm (hK19 _ _ ?_)
    refine wp_block ?_
    let I21 : Nat → (Nat → Value) → World → Prop := fun n__ r__ w__ => ∃ (k : Nat) (va : Value) (ha : List Hp) (acc : List Int), n__ = (l.take 40).length - k ∧ Has E w__ [ha, s4, R] ∧ (k ≤ (l.take 40).length) ∧ (Own 3 1 va acc.length (acc.map iV) ha) ∧ (acc = deadS (goesR (l.take 40)) ((l.take 40).take k)) ∧ (acc.length ≤ k) ∧ r__ 0 = v ∧ r__ 1 = (.int .i64 a) ∧ r__ 2 = (.int .i64 to) ∧ r__ 6 = (.bool false) ∧ r__ 7 = v3 ∧ r__ 8 = (.bool (decide (((l.length : Nat) : Int) ≤ 40))) ∧ r__ 9 = va ∧ r__ 10 = (.int .i64 (k : Int)) ∧ r__ 17 = (.bool (decide (¬ (((l.length : Nat) : Int) ≤ 40))))
    have hH22 : Has E w8 [[], s4, R] := (Has.nil ((hH7.front 1 rfl).front 1 rfl)).first 3 rfl
    refine c_loop I21 _ ⟨0, (.slice none 0 0), [], [], rfl, hH22, Nat.zero_le _, Own.nil 3 1, rfl, Nat.le_refl _, rfl, rfl, rfl, rfl, rfl, rfl, rfl, rfl, rfl⟩ ?_
    rintro n_ r25 w23 ⟨k, va, ha, acc, rfl, hH24, hk, hoa, hacc, hal, e20_0, e20_1, e20_2, e20_6, e20_7, e20_8, e20_9, e20_10, e20_17⟩
    refine wp_seq_k fun K26 hK26 => ?_
    refine wp_seq_k fun K27 hK27 => ?_
    refine c_region ?_
    refine s_op (o_move (v := (.int .i64 (k : Int))) e20_10 ?_)
    refine s_op (o_move (v := v3) e20_7 ?_)
    refine s_op (o_lenS Try.underlying24 rfl ho5.sl ?_)
    refine s_op (o_lss (a := (k : Int)) (b := (((l.take 40).length : Nat) : Int)) rfl rfl ?_)
    refine s_nil ?_
    refine t_norm (hK27 _ _ ?_)
    refine c_cond rfl (fun h28 => ?_) (fun h28 => ?_)
    · -- (k : Int) < (((l.take 40).length : Nat) : Int)
      refine wp_skip ?_
      refine t_norm (hK26 _ _ ?_)
      refine wp_seq_k fun K29 hK29 => ?_
      refine wp_block ?_
      refine wp_seq_k fun K30 hK30 => ?_
      refine c_region ?_
      refine s_op (o_move (v := v3) e20_7 ?_)
      refine s_op (o_move (v := v3) e20_7 ?_)
      refine s_op (o_move (v := (.int .i64 (k : Int))) e20_10 ?_)
      obtain ⟨x34, hx35⟩ : ∃ x_, (l.take 40)[((k : Int)).toNat]? = some x_ := get_some (by omega)
      refine s_op (o_indexF tmC_len Try.underlying24 ti34 rfl ho5.sl rfl rfl (by omega) hx35 fun b31 o32 hc33 => ?_)
      refine s_op (o_fieldAddr (k := o32) (fun _ => by kernel_rfl) rfl ?_)
      refine s_op (o_load1 (v := (.int .i64 x34.1)) Try.underlying3 rfl rfl hH24 (seg_sub 1 rfl) (CellsAt.field (k := 0) (ds := [(.int .i64 x34.1)]) hc33 rfl) ?_)
      refine s_op (o_callf (vs := #[v3, (.int .i64 x34.1)]) ca14 rfl (args2 rfl rfl) (refround_c hH24.all (l := (l.take 40)) (ho5.sl.mono (seg_sub 1 rfl)) (by first | omega | decide) x34.1) ?_)
      rintro _ w38 ⟨rfl, hX36⟩
      refine ⟨_, rfl, ?_⟩
      have hH37 := hX36.of_all
      refine s_nil ?_
      refine t_norm (hK30 _ _ ?_)
      refine c_cond rfl (fun h39 => ?_) (fun h39 => ?_)
      · -- x34.1 ∈ reachS (l.take 40) [x34.1]
        refine c_region ?_
        refine s_op (o_move (v := va) e20_9 ?_)
        refine s_op (o_move (v := v3) e20_7 ?_)
        refine s_op (o_move (v := (.int .i64 (k : Int))) e20_10 ?_)
        refine s_op (o_indexF tmC_len Try.underlying24 ti34 rfl ho5.sl rfl rfl (by omega) hx35 fun b40 o41 hc42 => ?_)
        refine s_op (o_fieldAddr (k := o41) (fun _ => by kernel_rfl) rfl ?_)
        refine s_op (o_load1 (v := (.int .i64 x34.1)) Try.underlying3 rfl rfl hH37 (seg_sub 1 rfl) (CellsAt.field (k := 0) (ds := [(.int .i64 x34.1)]) hc42 rfl) ?_)
        refine s_op (o_callf (vs := #[va, (.int .i64 x34.1), (.bool true)]) ca15 rfl (args3 rfl rfl rfl) (with_c hH37.all (l := acc) (hoa.sl.mono (seg_sub 0 rfl)) (by omega) x34.1 true) ?_)
        rintro _ w48 ⟨v43, s44, rfl, ho45, hX46⟩
        refine ⟨_, rfl, ?_⟩
        have hH47 : Has E w48 [s44, ha, s4, R] := hX46.of_all1
        refine s_op (o_assign (v := v43) rfl ?_)
        refine s_nil ?_
        refine b_norm ?_
        refine t_norm (hK29 _ _ ?_)
        refine c_region ?_
        refine s_op (o_move (v := (.int .i64 (k : Int))) e20_10 ?_)
        refine s_op (o_add (a := (k : Int)) (b := 1) rfl rfl (w64 (by omega) (by omega)) ?_)
        refine s_op (o_assign (v := (.int .i64 ((k : Int) + 1))) rfl ?_)
        refine s_nil ?_
        have hH49 : Has E w48 [s44, s4, R] := (((hH47.front 3 rfl).front 3 rfl).front 2 rfl).first 3 rfl
        refine t_norm ⟨(l.take 40).length - (k + 1), _, rfl, ?_, ?_⟩
        · omega
        · exact ⟨(k + 1), v43, s44, (withS x34.1 (!true) acc), rfl, hH49, (by omega), (ho45), (by rw [dead_yes (show (l.take 40)[k]? = some _ from hx35) (decide_eq_true h39), ← hacc]; rfl), (by first | omega | (have := withS_le1 x34.1 (!true) acc; omega)), e20_0, e20_1, e20_2, e20_6, e20_7, e20_8, rfl, rfl, e20_17⟩
      · -- not: x34.1 ∈ reachS (l.take 40) [x34.1]
        refine wp_skip ?_
        refine b_norm ?_
        refine t_norm (hK29 _ _ ?_)
        refine c_region ?_
        refine s_op (o_move (v := (.int .i64 (k : Int))) e20_10 ?_)
        refine s_op (o_add (a := (k : Int)) (b := 1) rfl rfl (w64 (by omega) (by omega)) ?_)
        refine s_op (o_assign (v := (.int .i64 ((k : Int) + 1))) rfl ?_)
        refine s_nil ?_
        refine t_norm ⟨(l.take 40).length - (k + 1), _, rfl, ?_, ?_⟩
        · omega
        · exact ⟨(k + 1), va, ha, acc, rfl, hH37, (by omega), (hoa), (by rw [dead_no (show (l.take 40)[k]? = some _ from hx35) (decide_eq_false h39), ← hacc]), (by first | omega | (have := withS_le1 x34.1 (!true) acc; omega)), e20_0, e20_1, e20_2, e20_6, e20_7, e20_8, e20_9, rfl, e20_17⟩
    · -- not: (k : Int) < (((l.take 40).length : Nat) : Int)
      rw [show k = (l.take 40).length by omega, List.take_length] at hacc
      refine wp_exit ?_
      refine t_exit (t_exit (x_in (?_)))
      refine t_norm (hK18 _ _ ?_)
      refine wp_seq_k fun K50 hK50 => ?_
      refine c_region ?_
      refine s_op (o_move (v := v) e20_0 ?_)
      refine s_op (o_move (v := (.int .i64 a)) e20_1 ?_)
      refine s_op (o_move (v := (.int .i64 to)) e20_2 ?_)
      refine s_op (o_callf (vs := #[v, (.int .i64 a), (.int .i64 to)]) ca16 rfl (args3 rfl rfl rfl) (way_c hH24.all (l := l) (hv.mono (seg_sub 2 rfl)) (by first | omega | decide) a to) ?_)
      rintro _ w57 ⟨v51, s52, rfl, ho53, hX55⟩
      refine ⟨_, rfl, ?_⟩
      have hH56 : Has E w57 [s52, ha, s4, R] := hX55.of_all1
      have hwl54 := rway_le l a to
      refine s_op (o_move (v := v3) e20_7 ?_)
      refine s_op (o_move (v := (.int .i64 a)) e20_1 ?_)
      refine s_op (o_move (v := (.int .i64 to)) e20_2 ?_)
      refine s_op (o_callf (vs := #[v3, (.int .i64 a), (.int .i64 to)]) ca17 rfl (args3 rfl rfl rfl) (refway_c hH56.all (l := (l.take 40)) (ho5.sl.mono (seg_sub 2 rfl)) (by first | omega | decide) a to) ?_)
      rintro _ w64 ⟨v58, s59, rfl, ho60, hX62⟩
      refine ⟨_, rfl, ?_⟩
      have hH63 : Has E w64 [s59, s52, ha, s4, R] := hX62.of_all1
      have hwl61 := rway_le (l.take 40) a to
      refine s_op (o_callf (vs := #[v51, v58]) ca9 rfl (args2 rfl rfl) (same_c hH63.all (a := (rwayS l a to)) (b := (rwayS (l.take 40) a to)) (ho53.mono (seg_sub 1 rfl)) (ho60.sl.mono (seg_sub 0 rfl))) ?_)
      rintro _ w67 ⟨rfl, hX65⟩
      refine ⟨_, rfl, ?_⟩
      have hH66 := hX65.of_all
      refine s_op (o_move (v := (.bool (decide ((rwayS l a to) = (rwayS (l.take 40) a to))))) rfl ?_)
      by_cases h68 : (rwayS l a to) = (rwayS (l.take 40) a to)
      · -- (rwayS l a to) = (rwayS (l.take 40) a to)
        refine s_on 48 rfl (congrArg Value.bool (decide_eq_true h68)) (o_move (v := v) e20_0 ?_)
        refine s_on 48 rfl (congrArg Value.bool (decide_eq_true h68)) (o_move (v := (.int .i64 a)) e20_1 ?_)
        refine s_on 48 rfl (congrArg Value.bool (decide_eq_true h68)) (o_buildSlice (ps := #[(0, (.int .i64 a))]) (cells := #[(.int .i64 a)]) Try.underlying23 ti3 (by decide) (parts1 rfl) (by kernel_rfl) hH66 fun b69 w70 hH71 => ?_)
        refine s_on 48 rfl (congrArg Value.bool (decide_eq_true h68)) (o_callf (vs := #[v, (.slice (some ⟨b69, 0, none⟩) 1 1)]) ca18 rfl (args2 rfl rfl) (round_c hH71.all (l := l) (hv.mono (seg_sub 5 rfl)) (by first | omega | decide) (fr := [a]) ((sl_lit (f := iV) (l := [a]) rfl rfl (by simp)).mono (seg_sub 0 rfl))) ?_)
        rintro _ w74 ⟨rfl, hX72⟩
        refine ⟨_, rfl, ?_⟩
        have hH73 := hX72.of_all
        refine s_on 48 rfl (congrArg Value.bool (decide_eq_true h68)) (o_move (v := v3) e20_7 ?_)
        refine s_on 48 rfl (congrArg Value.bool (decide_eq_true h68)) (o_move (v := (.int .i64 a)) e20_1 ?_)
        refine s_on 48 rfl (congrArg Value.bool (decide_eq_true h68)) (o_callf (vs := #[v3, (.int .i64 a)]) ca14 rfl (args2 rfl rfl) (refround_c hH73.all (l := (l.take 40)) (ho5.sl.mono (seg_sub 4 rfl)) (by first | omega | decide) a) ?_)
        rintro _ w77 ⟨rfl, hX75⟩
        refine ⟨_, rfl, ?_⟩
        have hH76 := hX75.of_all
        refine s_on 48 rfl (congrArg Value.bool (decide_eq_true h68)) (o_eqlb Try.underlying4 rfl rfl ?_)
        refine s_op (o_pick_t (u := (.bool (([a].any (goesR l)) == (decide (a ∈ reachS (l.take 40) [a]))))) ((rfl : _ = _).trans (congrArg Value.bool (decide_eq_true h68))) rfl ?_)
        refine s_op (o_move (v := (.bool (([a].any (goesR l)) == (decide (a ∈ reachS (l.take 40) [a]))))) rfl ?_)
        rcases Bool.eq_false_or_eq_true (([a].any (goesR l)) == (decide (a ∈ reachS (l.take 40) [a]))) with h78 | h78
        · -- ([a].any (goesR l)) == (decide (a ∈ reachS (l.take 40) [a]))
          refine s_on 58 rfl (congrArg Value.bool h78) (o_move (v := v) e20_0 ?_)
          refine s_on 58 rfl (congrArg Value.bool h78) (o_move (v := (.int .i64 a)) e20_1 ?_)
          refine s_on 58 rfl (congrArg Value.bool h78) (o_move (v := (.int .i64 to)) e20_2 ?_)
          refine s_on 58 rfl (congrArg Value.bool h78) (o_buildSlice (ps := #[(0, (.int .i64 a)), (1, (.int .i64 to))]) (cells := #[(.int .i64 a), (.int .i64 to)]) Try.underlying23 ti3 (by decide) (parts2 rfl rfl) (by kernel_rfl) hH76 fun b79 w80 hH81 => ?_)
          refine s_on 58 rfl (congrArg Value.bool h78) (o_callf (vs := #[v, (.slice (some ⟨b79, 0, none⟩) 2 2)]) ca18 rfl (args2 rfl rfl) (round_c hH81.all (l := l) (hv.mono (seg_sub 6 rfl)) (by first | omega | decide) (fr := [a, to]) ((sl_lit (f := iV) (l := [a, to]) rfl rfl (by simp)).mono (seg_sub 0 rfl))) ?_)
          rintro _ w84 ⟨rfl, hX82⟩
          refine ⟨_, rfl, ?_⟩
          have hH83 := hX82.of_all
          refine s_on 58 rfl (congrArg Value.bool h78) (o_move (v := v3) e20_7 ?_)
          refine s_on 58 rfl (congrArg Value.bool h78) (o_move (v := (.int .i64 a)) e20_1 ?_)
          refine s_on 58 rfl (congrArg Value.bool h78) (o_callf (vs := #[v3, (.int .i64 a)]) ca14 rfl (args2 rfl rfl) (refround_c hH83.all (l := (l.take 40)) (ho5.sl.mono (seg_sub 5 rfl)) (by first | omega | decide) a) ?_)
          rintro _ w87 ⟨rfl, hX85⟩
          refine ⟨_, rfl, ?_⟩
          have hH86 := hX85.of_all
          refine s_on 58 rfl (congrArg Value.bool h78) (o_move (v := (.bool (decide (a ∈ reachS (l.take 40) [a])))) rfl ?_)
          by_cases h88 : a ∈ reachS (l.take 40) [a]
          · -- a ∈ reachS (l.take 40) [a]
            refine s_off (b' := true) 67 rfl (congrArg Value.bool (decide_eq_true h88)) rfl ?_
            refine s_off (b' := true) 67 rfl (congrArg Value.bool (decide_eq_true h88)) rfl ?_
            refine s_off (b' := true) 67 rfl (congrArg Value.bool (decide_eq_true h88)) rfl ?_
            refine s_on 58 rfl (congrArg Value.bool h78) (o_pick_t (u := (.bool true)) ((rfl : _ = _).trans (congrArg Value.bool (decide_eq_true h88))) rfl ?_)
            refine s_on 58 rfl (congrArg Value.bool h78) (o_eqlb Try.underlying4 rfl rfl ?_)
            refine s_op (o_pick_t (u := (.bool (([a, to].any (goesR l)) == true))) ((rfl : _ = _).trans (congrArg Value.bool h78)) rfl ?_)
            refine s_op (o_move (v := (.bool (([a, to].any (goesR l)) == true))) rfl ?_)
            rcases Bool.eq_false_or_eq_true (([a, to].any (goesR l)) == true) with h89 | h89
            · -- ([a, to].any (goesR l)) == true
              refine s_on 74 rfl (congrArg Value.bool h89) (o_move (v := v) e20_0 ?_)
              refine s_on 74 rfl (congrArg Value.bool h89) (o_callf (vs := #[v]) ca19 rfl (args1 rfl) (dead_c hH86.all (l := l) (hv.mono (seg_sub 6 rfl)) (by first | omega | decide)) ?_)
              rintro _ w95 ⟨v90, s91, rfl, ho92, hX93⟩
              refine ⟨_, rfl, ?_⟩
              have hH94 : Has E w95 [s91, [Hp.one b79 (.cells #[(.int .i64 a), (.int .i64 to)] 3 (0, 0))], [Hp.one b69 (.cells #[(.int .i64 a)] 3 (0, 0))], s59, s52, ha, s4, R] := hX93.of_all1
              refine s_on 74 rfl (congrArg Value.bool h89) (o_move (v := va) e20_9 ?_)
              refine s_on 74 rfl (congrArg Value.bool h89) (o_callf (vs := #[v90, va]) ca9 rfl (args2 rfl rfl) (same_c hH94.all (a := (deadS (goesR l) l)) (b := acc) (ho92.sl.mono (seg_sub 0 rfl)) (hoa.sl.mono (seg_sub 5 rfl))) ?_)
              rintro _ w98 ⟨rfl, hX96⟩
              refine ⟨_, rfl, ?_⟩
              have hH97 := hX96.of_all
              refine s_op (o_pick_t (u := (.bool (decide ((deadS (goesR l) l) = acc)))) ((rfl : _ = _).trans (congrArg Value.bool h89)) rfl ?_)
              refine s_op (o_move (v := (.bool (decide ((deadS (goesR l) l) = acc)))) rfl ?_)
              by_cases h99 : (deadS (goesR l) l) = acc
              · -- (deadS (goesR l) l) = acc
                refine s_on 80 rfl (congrArg Value.bool (decide_eq_true h99)) (o_callf (vs := #[]) ca8 rfl (args0) (awake15_c hH97.all) ?_)
                rintro _ w102 ⟨rfl, hX100⟩
                refine ⟨_, rfl, ?_⟩
                have hH101 := hX100.of_all
                refine s_op (o_pick_t (u := (.bool true)) ((rfl : _ = _).trans (congrArg Value.bool (decide_eq_true h99))) rfl ?_)
                refine s_op (o_assign (v := (.bool true)) rfl ?_)
                refine s_nil ?_
                refine t_norm (hK50 _ _ ?_)
                refine wp_ret ?_
                refine c_ret1 Try.results4  (v := (.bool true)) rfl ?_
                have hH103 : Has E w102 [R] := (hH101.front 7 rfl).first 1 rfl
                exact ⟨rfl, hH103⟩
              · -- not: (deadS (goesR l) l) = acc
                exact absurd (by rw [hacc, htk]) h99
            · -- not: ([a, to].any (goesR l)) == true
              rw [htk] at *; simp_all [goesR]
          · -- not: a ∈ reachS (l.take 40) [a]
            refine s_on 67 rfl (congrArg Value.bool (decide_eq_false h88)) (o_move (v := v3) e20_7 ?_)
            refine s_on 67 rfl (congrArg Value.bool (decide_eq_false h88)) (o_move (v := (.int .i64 to)) e20_2 ?_)
            refine s_on 67 rfl (congrArg Value.bool (decide_eq_false h88)) (o_callf (vs := #[v3, (.int .i64 to)]) ca14 rfl (args2 rfl rfl) (refround_c hH86.all (l := (l.take 40)) (ho5.sl.mono (seg_sub 5 rfl)) (by first | omega | decide) to) ?_)
            rintro _ w106 ⟨rfl, hX104⟩
            refine ⟨_, rfl, ?_⟩
            have hH105 := hX104.of_all
            refine s_on 58 rfl (congrArg Value.bool h78) (o_pick_f (u := (.bool (decide (to ∈ reachS (l.take 40) [to])))) ((rfl : _ = _).trans (congrArg Value.bool (decide_eq_false h88))) rfl ?_)
            refine s_on 58 rfl (congrArg Value.bool h78) (o_eqlb Try.underlying4 rfl rfl ?_)
            refine s_op (o_pick_t (u := (.bool (([a, to].any (goesR l)) == (decide (to ∈ reachS (l.take 40) [to]))))) ((rfl : _ = _).trans (congrArg Value.bool h78)) rfl ?_)
            refine s_op (o_move (v := (.bool (([a, to].any (goesR l)) == (decide (to ∈ reachS (l.take 40) [to]))))) rfl ?_)
            rcases Bool.eq_false_or_eq_true (([a, to].any (goesR l)) == (decide (to ∈ reachS (l.take 40) [to]))) with h107 | h107
            · -- ([a, to].any (goesR l)) == (decide (to ∈ reachS (l.take 40) [to]))
              refine s_on 74 rfl (congrArg Value.bool h107) (o_move (v := v) e20_0 ?_)
              refine s_on 74 rfl (congrArg Value.bool h107) (o_callf (vs := #[v]) ca19 rfl (args1 rfl) (dead_c hH105.all (l := l) (hv.mono (seg_sub 6 rfl)) (by first | omega | decide)) ?_)
              rintro _ w113 ⟨v108, s109, rfl, ho110, hX111⟩
              refine ⟨_, rfl, ?_⟩
              have hH112 : Has E w113 [s109, [Hp.one b79 (.cells #[(.int .i64 a), (.int .i64 to)] 3 (0, 0))], [Hp.one b69 (.cells #[(.int .i64 a)] 3 (0, 0))], s59, s52, ha, s4, R] := hX111.of_all1
              refine s_on 74 rfl (congrArg Value.bool h107) (o_move (v := va) e20_9 ?_)
              refine s_on 74 rfl (congrArg Value.bool h107) (o_callf (vs := #[v108, va]) ca9 rfl (args2 rfl rfl) (same_c hH112.all (a := (deadS (goesR l) l)) (b := acc) (ho110.sl.mono (seg_sub 0 rfl)) (hoa.sl.mono (seg_sub 5 rfl))) ?_)
              rintro _ w116 ⟨rfl, hX114⟩
              refine ⟨_, rfl, ?_⟩
              have hH115 := hX114.of_all
              refine s_op (o_pick_t (u := (.bool (decide ((deadS (goesR l) l) = acc)))) ((rfl : _ = _).trans (congrArg Value.bool h107)) rfl ?_)
              refine s_op (o_move (v := (.bool (decide ((deadS (goesR l) l) = acc)))) rfl ?_)
              by_cases h117 : (deadS (goesR l) l) = acc
              · -- (deadS (goesR l) l) = acc
                refine s_on 80 rfl (congrArg Value.bool (decide_eq_true h117)) (o_callf (vs := #[]) ca8 rfl (args0) (awake15_c hH115.all) ?_)
                rintro _ w120 ⟨rfl, hX118⟩
                refine ⟨_, rfl, ?_⟩
                have hH119 := hX118.of_all
                refine s_op (o_pick_t (u := (.bool true)) ((rfl : _ = _).trans (congrArg Value.bool (decide_eq_true h117))) rfl ?_)
                refine s_op (o_assign (v := (.bool true)) rfl ?_)
                refine s_nil ?_
                refine t_norm (hK50 _ _ ?_)
                refine wp_ret ?_
                refine c_ret1 Try.results4  (v := (.bool true)) rfl ?_
                have hH121 : Has E w120 [R] := (hH119.front 7 rfl).first 1 rfl
                exact ⟨rfl, hH121⟩
              · -- not: (deadS (goesR l) l) = acc
                exact absurd (by rw [hacc, htk]) h117
            · -- not: ([a, to].any (goesR l)) == (decide (to ∈ reachS (l.take 40) [to]))
              rw [htk] at *; simp_all [goesR]
        · -- not: ([a].any (goesR l)) == (decide (a ∈ reachS (l.take 40) [a]))
          rw [htk] at *; simp_all [goesR]
      · -- not: (rwayS l a to) = (rwayS (l.take 40) a to)
        exact absurd (by rw [htk]) h68
end Go.Q
