/-
  Parts of a walk: what functions of the program compute, each told by a theorem.
-/
import Derived.Test.YtcffibbdbalmjaaQE7
import Derived.Test.YtcffibbdbalmjaaQDevA
set_option linter.unusedVariables false
set_option linter.unusedSimpArgs false
namespace Go.Q
open Go.Proofs
set_option linter.unusedVariables false
set_option maxRecDepth 100000
attribute [local irreducible] wpList OK Code.wp
set_option maxHeartbeats 4000000 in
theorem ljoin_c {E w : World} {R : List Hp} (hH : Has E w [R]) {v : Value} {l : List Bs} (hv : Sl R 1 v l.length (l.map sV)) (hn : ∀ t ∈ l, t.length ≤ 140737488355328) (hl : l.length ≤ 1000) :
    Calls Try.prog 53 #[v] w fun e w' => e = .returned (S l.flatten) ∧ Has E w' [R] := by
  refine c_enter (args := [v]) Try.func53 rfl Try.ntmps53 (by simp) ?_
  refine wp_seq_k fun K1 hK1 => ?_
  refine c_region ?_
  refine s_op (o_assign (v := (S ([] : List UInt8))) rfl ?_)
  refine s_nil ?_
  refine t_norm (hK1 _ _ ?_)
  refine wp_seq_k fun K2 hK2 => ?_
  refine c_region ?_
  refine s_op (o_assign (v := (S ([] : List UInt8))) rfl ?_)
  refine s_nil ?_
  refine t_norm (hK2 _ _ ?_)
  refine wp_seq_k fun K3 hK3 => ?_
  refine wp_seq_k fun K4 hK4 => ?_
  refine c_region ?_
  refine s_op (o_assign (v := (.int .i64 0)) rfl ?_)
  refine s_nil ?_
  refine t_norm (hK4 _ _ ?_)
  refine wp_block ?_
  let I6 : Nat → (Nat → Value) → World → Prop := fun n__ r__ w__ => ∃ (k : Nat) (t : Bs), n__ = l.length - k ∧ Has E w__ [R] ∧ (k ≤ l.length) ∧ (t = (l.take k).flatten) ∧ (t.length ≤ k * 140737488355328) ∧ r__ 0 = v ∧ r__ 2 = (S ([] : List UInt8)) ∧ r__ 3 = (S t) ∧ r__ 4 = (.int .i64 (k : Int))
  refine c_loop I6 _ ⟨0, ([] : Bs), rfl, hH, Nat.zero_le _, (by simp), (by simp), rfl, rfl, rfl, rfl⟩ ?_
  rintro n_ r9 w7 ⟨k, t, rfl, hH8, hk, ht, htl, e5_0, e5_2, e5_3, e5_4⟩
  refine wp_seq_k fun K10 hK10 => ?_
  refine wp_seq_k fun K11 hK11 => ?_
  refine c_region ?_
  refine s_op (o_move (v := (.int .i64 (k : Int))) e5_4 ?_)
  refine s_op (o_move (v := v) e5_0 ?_)
  refine s_op (o_lenS Try.underlying53 rfl hv ?_)
  refine s_op (o_lss (a := (k : Int)) (b := ((l.length : Nat) : Int)) rfl rfl ?_)
  refine s_nil ?_
  refine t_norm (hK11 _ _ ?_)
  refine c_cond rfl (fun h12 => ?_) (fun h12 => ?_)
  · -- (k : Int) < ((l.length : Nat) : Int)
    refine wp_skip ?_
    refine t_norm (hK10 _ _ ?_)
    refine wp_seq_k fun K13 hK13 => ?_
    refine wp_block ?_
    refine c_region ?_
    refine s_op (o_move (v := (S t)) e5_3 ?_)
    refine s_op (o_move (v := v) e5_0 ?_)
    refine s_op (o_move (v := (.int .i64 (k : Int))) e5_4 ?_)
    obtain ⟨x17, hx18⟩ : ∃ x_, l[((k : Int)).toNat]? = some x_ := get_some (by omega)
    refine s_op (o_index1 Try.underlying53 ti9 rfl hv rfl (by omega) hx18 fun b14 o15 hc16 => ?_)
    refine s_op (o_load1 (v := (S x17)) Try.underlying9 rfl rfl hH8 (seg_sub 0 rfl) hc16 ?_)
    refine s_op (o_sadd rfl rfl (by have := hn _ (List.mem_of_getElem? (by assumption)); first | omega | (simp only [List.length_append]; omega)) ?_)
    refine s_op (o_assign (v := (S (t ++ x17))) rfl ?_)
    refine s_nil ?_
    refine b_norm ?_
    refine t_norm (hK13 _ _ ?_)
    refine c_region ?_
    refine s_op (o_move (v := (.int .i64 (k : Int))) e5_4 ?_)
    refine s_op (o_add (a := (k : Int)) (b := 1) rfl rfl (w64 (by omega) (by omega)) ?_)
    refine s_op (o_assign (v := (.int .i64 ((k : Int) + 1))) rfl ?_)
    refine s_nil ?_
    refine t_norm ⟨l.length - (k + 1), _, rfl, ?_, ?_⟩
    · omega
    · exact ⟨(k + 1), (t ++ x17), rfl, hH8, (by omega), (by rw [flatten_take_succ (show l[k]? = some _ from hx18), ← ht]), (by have := hn _ (List.mem_of_getElem? hx18); simp only [List.length_append]; omega), e5_0, e5_2, rfl, rfl⟩
  · -- not: (k : Int) < ((l.length : Nat) : Int)
    refine wp_exit ?_
    refine t_exit (t_exit (x_in (?_)))
    refine t_norm (hK3 _ _ ?_)
    refine wp_seq_k fun K19 hK19 => ?_
    refine c_region ?_
    refine s_op (o_move (v := (S t)) e5_3 ?_)
    refine s_op (o_assign (v := (S t)) rfl ?_)
    refine s_nil ?_
    refine t_norm (hK19 _ _ ?_)
    refine wp_ret ?_
    refine c_ret1 Try.results53  (v := (S t)) rfl ?_
    have e_ : k = l.length := by omega
    rw [e_, List.take_of_length_le (Nat.le_refl _)] at ht
    exact ⟨by rw [ht], hH8⟩
set_option maxHeartbeats 4000000 in
theorem lgreat_c {E w : World} {R : List Hp} (hH : Has E w [R]) {v : Value} {l : List DAct} (hv : Sl R 5 v l.length (l.flatMap daC)) (hok : ∀ a ∈ l, DaOk R a) :
    Calls Try.prog 50 #[v] w fun e w' => ∃ b, e = .returned (.bool b) ∧ (b = false → DFine l) ∧ Has E w' [R] := by
  have hn_ := hv.le
  have hml := fun (x : DAct) (hx : x ∈ l) => (hok x hx).1.le
  have hml2 := fun (x : DAct) (hx : x ∈ l) => (hok x hx).2.1.le
  refine c_enter (args := [v]) Try.func50 rfl Try.ntmps50 (by simp) ?_
  refine wp_seq_k fun K1 hK1 => ?_
  refine c_region ?_
  refine s_op (o_assign (v := (.bool false)) rfl ?_)
  refine s_nil ?_
  refine t_norm (hK1 _ _ ?_)
  refine wp_seq_k fun K2 hK2 => ?_
  refine wp_seq_k fun K3 hK3 => ?_
  refine c_region ?_
  refine s_op (o_move (v := v) rfl ?_)
  refine s_op (o_lenS Try.underlying97 rfl hv ?_)
  refine s_op (o_gtr (a := ((l.length : Nat) : Int)) (b := 60) rfl rfl ?_)
  refine s_nil ?_
  refine t_norm (hK3 _ _ ?_)
  refine c_cond rfl (fun h4 => ?_) (fun h4 => ?_)
  · -- 60 < ((l.length : Nat) : Int)
    refine wp_seq_k fun K5 hK5 => ?_
    refine c_region ?_
    refine s_op (o_assign (v := (.bool true)) rfl ?_)
    refine s_nil ?_
    refine t_norm (hK5 _ _ ?_)
    refine wp_ret ?_
    refine t_ret (c_ret1 Try.results50  (v := (.bool true)) rfl ?_)
    exact ⟨true, rfl, (fun g => by cases g), hH⟩
  · -- not: 60 < ((l.length : Nat) : Int)
    refine wp_skip ?_
    refine t_norm (hK2 _ _ ?_)
    refine wp_seq_k fun K6 hK6 => ?_
    refine wp_seq_k fun K7 hK7 => ?_
    refine c_region ?_
    refine s_op (o_assign (v := (.int .i64 0)) rfl ?_)
    refine s_nil ?_
    refine t_norm (hK7 _ _ ?_)
    refine wp_block ?_
    let I9 : Nat → (Nat → Value) → World → Prop := fun n__ r__ w__ => ∃ (k : Nat), n__ = l.length - k ∧ Has E w__ [R] ∧ (k ≤ l.length) ∧ (∀ a ∈ l.take k, DFin a) ∧ r__ 0 = v ∧ r__ 3 = (.int .i64 (k : Int)) ∧ r__ 6 = (.bool (decide (60 < ((l.length : Nat) : Int))))
    refine c_loop I9 _ ⟨0, rfl, hH, Nat.zero_le _, (by simp), rfl, rfl, rfl⟩ ?_
    rintro n_ r12 w10 ⟨k, rfl, hH11, hk, hfn, e8_0, e8_3, e8_6⟩
    refine wp_seq_k fun K13 hK13 => ?_
    refine wp_seq_k fun K14 hK14 => ?_
    refine c_region ?_
    refine s_op (o_move (v := (.int .i64 (k : Int))) e8_3 ?_)
    refine s_op (o_move (v := v) e8_0 ?_)
    refine s_op (o_lenS Try.underlying97 rfl hv ?_)
    refine s_op (o_lss (a := (k : Int)) (b := ((l.length : Nat) : Int)) rfl rfl ?_)
    refine s_nil ?_
    refine t_norm (hK14 _ _ ?_)
    refine c_cond rfl (fun h15 => ?_) (fun h15 => ?_)
    · -- (k : Int) < ((l.length : Nat) : Int)
      refine wp_skip ?_
      refine t_norm (hK13 _ _ ?_)
      refine wp_seq_k fun K16 hK16 => ?_
      refine wp_block ?_
      refine wp_seq_k fun K17 hK17 => ?_
      refine c_region ?_
      refine s_op (o_move (v := v) e8_0 ?_)
      refine s_op (o_move (v := (.int .i64 (k : Int))) e8_3 ?_)
      obtain ⟨x21, hx22⟩ : ∃ x_, l[((k : Int)).toNat]? = some x_ := get_some (by omega)
      refine s_op (o_indexF daC_len Try.underlying97 ti104 rfl hv rfl rfl (by omega) hx22 fun b18 o19 hc20 => ?_)
      refine s_op (o_fieldAddr (k := o19 + 3) (fun _ => by kernel_rfl) rfl ?_)
      refine s_op (o_load1 (v := x21.dv) Try.underlying53 rfl rfl hH11 (seg_sub 0 rfl) (CellsAt.field (k := 3) (ds := [x21.dv]) hc20 rfl) ?_)
      refine s_op (o_lenS Try.underlying53 rfl (hok x21 (List.mem_of_getElem? hx22)).1 ?_)
      refine s_op (o_gtr (a := ((x21.data.length : Nat) : Int)) (b := 6) rfl rfl ?_)
      refine s_op (o_move (v := (.bool (decide (6 < ((x21.data.length : Nat) : Int))))) rfl ?_)
      by_cases h23 : 6 < ((x21.data.length : Nat) : Int)
      · -- 6 < ((x21.data.length : Nat) : Int)
        refine s_off (b' := true) 20 rfl (congrArg Value.bool (decide_eq_true h23)) rfl ?_
        refine s_off (b' := true) 20 rfl (congrArg Value.bool (decide_eq_true h23)) rfl ?_
        refine s_off (b' := true) 20 rfl (congrArg Value.bool (decide_eq_true h23)) rfl ?_
        refine s_off (b' := true) 20 rfl (congrArg Value.bool (decide_eq_true h23)) rfl ?_
        refine s_off (b' := true) 20 rfl (congrArg Value.bool (decide_eq_true h23)) rfl ?_
        refine s_off (b' := true) 20 rfl (congrArg Value.bool (decide_eq_true h23)) rfl ?_
        refine s_off (b' := true) 20 rfl (congrArg Value.bool (decide_eq_true h23)) rfl ?_
        refine s_off (b' := true) 20 rfl (congrArg Value.bool (decide_eq_true h23)) rfl ?_
        refine s_op (o_pick_t (u := (.bool true)) ((rfl : _ = _).trans (congrArg Value.bool (decide_eq_true h23))) rfl ?_)
        refine s_op (o_move (v := (.bool true)) rfl ?_)
        refine s_off (b' := true) 30 rfl rfl rfl ?_
        refine s_off (b' := true) 30 rfl rfl rfl ?_
        refine s_off (b' := true) 30 rfl rfl rfl ?_
        refine s_off (b' := true) 30 rfl rfl rfl ?_
        refine s_off (b' := true) 30 rfl rfl rfl ?_
        refine s_off (b' := true) 30 rfl rfl rfl ?_
        refine s_off (b' := true) 30 rfl rfl rfl ?_
        refine s_op (o_pick_t (u := (.bool true)) rfl rfl ?_)
        refine s_nil ?_
        refine t_norm (hK17 _ _ ?_)
        refine c_true rfl rfl ?_
        refine wp_seq_k fun K24 hK24 => ?_
        refine c_region ?_
        refine s_op (o_assign (v := (.bool true)) rfl ?_)
        refine s_nil ?_
        refine t_norm (hK24 _ _ ?_)
        refine wp_ret ?_
        refine b_ret (t_ret (t_ret (b_ret (t_ret (c_ret1 Try.results50  (v := (.bool true)) rfl ?_)))))
        exact ⟨true, rfl, (fun g => by cases g), hH11⟩
      · -- not: 6 < ((x21.data.length : Nat) : Int)
        refine s_on 20 rfl (congrArg Value.bool (decide_eq_false h23)) (o_move (v := v) e8_0 ?_)
        refine s_on 20 rfl (congrArg Value.bool (decide_eq_false h23)) (o_move (v := (.int .i64 (k : Int))) e8_3 ?_)
        refine s_on 20 rfl (congrArg Value.bool (decide_eq_false h23)) (o_indexF daC_len Try.underlying97 ti104 rfl hv rfl rfl (by omega) hx22 fun b25 o26 hc27 => ?_)
        refine s_on 20 rfl (congrArg Value.bool (decide_eq_false h23)) (o_fieldAddr (k := o26 + 3) (fun _ => by kernel_rfl) rfl ?_)
        refine s_on 20 rfl (congrArg Value.bool (decide_eq_false h23)) (o_load1 (v := x21.dv) Try.underlying53 rfl rfl hH11 (seg_sub 0 rfl) (CellsAt.field (k := 3) (ds := [x21.dv]) hc27 rfl) ?_)
        refine s_on 20 rfl (congrArg Value.bool (decide_eq_false h23)) (o_callf (vs := #[x21.dv]) ca53 rfl (args1 rfl) (ljoin_c hH11.all (l := x21.data) ((hok x21 (List.mem_of_getElem? hx22)).1.mono (seg_sub 0 rfl)) (hok _ (List.mem_of_getElem? hx22)).2.2.1 (by omega)) ?_)
        rintro _ w30 ⟨rfl, hX28⟩
        refine ⟨_, rfl, ?_⟩
        have hH29 := hX28.of_all
        refine s_on 20 rfl (congrArg Value.bool (decide_eq_false h23)) (o_slen Try.underlying9 rfl ?_)
        refine s_on 20 rfl (congrArg Value.bool (decide_eq_false h23)) (o_gtr (a := (x21.data.flatten.length : Int)) (b := 200) rfl rfl ?_)
        refine s_op (o_pick_f (u := (.bool (decide (200 < (x21.data.flatten.length : Int))))) ((rfl : _ = _).trans (congrArg Value.bool (decide_eq_false h23))) rfl ?_)
        refine s_op (o_move (v := (.bool (decide (200 < (x21.data.flatten.length : Int))))) rfl ?_)
        by_cases h31 : 200 < (x21.data.flatten.length : Int)
        · -- 200 < (x21.data.flatten.length : Int)
          refine s_off (b' := true) 30 rfl (congrArg Value.bool (decide_eq_true h31)) rfl ?_
          refine s_off (b' := true) 30 rfl (congrArg Value.bool (decide_eq_true h31)) rfl ?_
          refine s_off (b' := true) 30 rfl (congrArg Value.bool (decide_eq_true h31)) rfl ?_
          refine s_off (b' := true) 30 rfl (congrArg Value.bool (decide_eq_true h31)) rfl ?_
          refine s_off (b' := true) 30 rfl (congrArg Value.bool (decide_eq_true h31)) rfl ?_
          refine s_off (b' := true) 30 rfl (congrArg Value.bool (decide_eq_true h31)) rfl ?_
          refine s_off (b' := true) 30 rfl (congrArg Value.bool (decide_eq_true h31)) rfl ?_
          refine s_op (o_pick_t (u := (.bool true)) ((rfl : _ = _).trans (congrArg Value.bool (decide_eq_true h31))) rfl ?_)
          refine s_nil ?_
          refine t_norm (hK17 _ _ ?_)
          refine c_true rfl rfl ?_
          refine wp_seq_k fun K32 hK32 => ?_
          refine c_region ?_
          refine s_op (o_assign (v := (.bool true)) rfl ?_)
          refine s_nil ?_
          refine t_norm (hK32 _ _ ?_)
          refine wp_ret ?_
          refine b_ret (t_ret (t_ret (b_ret (t_ret (c_ret1 Try.results50  (v := (.bool true)) rfl ?_)))))
          exact ⟨true, rfl, (fun g => by cases g), hH29⟩
        · -- not: 200 < (x21.data.flatten.length : Int)
          refine s_on 30 rfl (congrArg Value.bool (decide_eq_false h31)) (o_move (v := v) e8_0 ?_)
          refine s_on 30 rfl (congrArg Value.bool (decide_eq_false h31)) (o_move (v := (.int .i64 (k : Int))) e8_3 ?_)
          refine s_on 30 rfl (congrArg Value.bool (decide_eq_false h31)) (o_indexF daC_len Try.underlying97 ti104 rfl hv rfl rfl (by omega) hx22 fun b33 o34 hc35 => ?_)
          refine s_on 30 rfl (congrArg Value.bool (decide_eq_false h31)) (o_fieldAddr (k := o34 + 4) (fun _ => by kernel_rfl) rfl ?_)
          refine s_on 30 rfl (congrArg Value.bool (decide_eq_false h31)) (o_load1 (v := x21.kv) Try.underlying54 rfl rfl hH29 (seg_sub 0 rfl) (CellsAt.field (k := 4) (ds := [x21.kv]) hc35 rfl) ?_)
          refine s_on 30 rfl (congrArg Value.bool (decide_eq_false h31)) (o_lenS Try.underlying54 rfl (hok x21 (List.mem_of_getElem? hx22)).2.1 ?_)
          refine s_on 30 rfl (congrArg Value.bool (decide_eq_false h31)) (o_gtr (a := ((x21.keep.length : Nat) : Int)) (b := 40) rfl rfl ?_)
          refine s_op (o_pick_f (u := (.bool (decide (40 < ((x21.keep.length : Nat) : Int))))) ((rfl : _ = _).trans (congrArg Value.bool (decide_eq_false h31))) rfl ?_)
          refine s_nil ?_
          refine t_norm (hK17 _ _ ?_)
          refine c_cond rfl (fun h36 => ?_) (fun h36 => ?_)
          · -- 40 < ((x21.keep.length : Nat) : Int)
            refine wp_seq_k fun K37 hK37 => ?_
            refine c_region ?_
            refine s_op (o_assign (v := (.bool true)) rfl ?_)
            refine s_nil ?_
            refine t_norm (hK37 _ _ ?_)
            refine wp_ret ?_
            refine b_ret (t_ret (t_ret (b_ret (t_ret (c_ret1 Try.results50  (v := (.bool true)) rfl ?_)))))
            exact ⟨true, rfl, (fun g => by cases g), hH29⟩
          · -- not: 40 < ((x21.keep.length : Nat) : Int)
            refine wp_skip ?_
            refine b_norm ?_
            refine t_norm (hK16 _ _ ?_)
            refine c_region ?_
            refine s_op (o_move (v := (.int .i64 (k : Int))) e8_3 ?_)
            refine s_op (o_add (a := (k : Int)) (b := 1) rfl rfl (w64 (by omega) (by omega)) ?_)
            refine s_op (o_assign (v := (.int .i64 ((k : Int) + 1))) rfl ?_)
            refine s_nil ?_
            refine t_norm ⟨l.length - (k + 1), _, rfl, ?_, ?_⟩
            · omega
            · exact ⟨(k + 1), rfl, hH29, (by omega), (DFine.snoc hfn (show l[k]? = some _ from hx22) ⟨by omega, by omega, by omega⟩), e8_0, rfl, e8_6⟩
    · -- not: (k : Int) < ((l.length : Nat) : Int)
      refine wp_exit ?_
      refine t_exit (t_exit (x_in (?_)))
      refine t_norm (hK6 _ _ ?_)
      refine wp_seq_k fun K38 hK38 => ?_
      refine c_region ?_
      refine s_op (o_assign (v := (.bool false)) rfl ?_)
      refine s_nil ?_
      refine t_norm (hK38 _ _ ?_)
      refine wp_ret ?_
      refine c_ret1 Try.results50  (v := (.bool false)) rfl ?_
      have e_ : k = l.length := by omega
      rw [e_, List.take_of_length_le (Nat.le_refl _)] at hfn
      exact ⟨false, rfl, (fun _ => ⟨by omega, hfn⟩), hH11⟩
set_option maxHeartbeats 4000000 in
theorem pn_on {E w : World} {R : List Hp} (hH : Has E w [R]) :
    Calls Try.prog 57 #[(.pointer none)] w fun e w' => e = .returned (.bool false) ∧ Has E w' [R] := by
  refine c_enter (args := [(.pointer none)]) Try.func57 rfl Try.ntmps57 (by simp) ?_
  refine wp_seq_k fun K1 hK1 => ?_
  refine c_region ?_
  refine s_op (o_assign (v := (.bool false)) rfl ?_)
  refine s_nil ?_
  refine t_norm (hK1 _ _ ?_)
  refine wp_seq_k fun K2 hK2 => ?_
  refine c_region ?_
  refine s_op (o_move (v := (.pointer none)) rfl ?_)
  refine s_op (o_pnnil (p := none) Try.underlying99 rfl rfl ?_)
  refine s_op (o_move (v := (.bool false)) rfl ?_)
  refine s_off (b' := false) 5 rfl rfl rfl ?_
  refine s_off (b' := false) 5 rfl rfl rfl ?_
  refine s_off (b' := false) 5 rfl rfl rfl ?_
  refine s_off (b' := false) 5 rfl rfl rfl ?_
  refine s_off (b' := false) 5 rfl rfl rfl ?_
  refine s_op (o_pick_f (u := (.bool false)) rfl rfl ?_)
  refine s_op (o_assign (v := (.bool false)) rfl ?_)
  refine s_nil ?_
  refine t_norm (hK2 _ _ ?_)
  refine wp_ret ?_
  refine c_ret1 Try.results57  (v := (.bool false)) rfl ?_
  exact ⟨rfl, hH⟩
set_option maxHeartbeats 4000000 in
theorem pn_uses {E w : World} {R : List Hp} (hH : Has E w [R]) :
    Calls Try.prog 58 #[(.pointer none)] w fun e w' => e = .returned (.int .i64 (0 : Int)) ∧ Has E w' [R] := by
  refine c_enter (args := [(.pointer none)]) Try.func58 rfl Try.ntmps58 (by simp) ?_
  refine wp_seq_k fun K1 hK1 => ?_
  refine c_region ?_
  refine s_op (o_assign (v := (.int .i64 0)) rfl ?_)
  refine s_nil ?_
  refine t_norm (hK1 _ _ ?_)
  refine wp_seq_k fun K2 hK2 => ?_
  refine wp_seq_k fun K3 hK3 => ?_
  refine c_region ?_
  refine s_op (o_move (v := (.pointer none)) rfl ?_)
  refine s_op (o_pnil (p := none) Try.underlying99 rfl rfl ?_)
  refine s_nil ?_
  refine t_norm (hK3 _ _ ?_)
  refine c_true rfl rfl ?_
  refine wp_seq_k fun K4 hK4 => ?_
  refine c_region ?_
  refine s_op (o_assign (v := (.int .i64 0)) rfl ?_)
  refine s_nil ?_
  refine t_norm (hK4 _ _ ?_)
  refine wp_ret ?_
  refine t_ret (c_ret1 Try.results58  (v := (.int .i64 0)) rfl ?_)
  exact ⟨rfl, hH⟩
set_option maxHeartbeats 4000000 in
theorem pn_arm {E w : World} {R : List Hp} (hH : Has E w [R]) (n : Int) :
    Calls Try.prog 59 #[(.pointer none), (.int .i64 n)] w fun e w' => e = .returned (.tuple #[]) ∧ Has E w' [R] := by
  refine c_enter (args := [(.pointer none), (.int .i64 n)]) Try.func59 rfl Try.ntmps59 (by simp) ?_
  refine wp_seq_k fun K1 hK1 => ?_
  refine c_region ?_
  refine s_op (o_move (v := (.pointer none)) rfl ?_)
  refine s_op (o_pnnil (p := none) Try.underlying99 rfl rfl ?_)
  refine s_nil ?_
  refine t_norm (hK1 _ _ ?_)
  refine c_false rfl rfl ?_
  refine wp_skip ?_
  refine c_end0 Try.results59  ?_
  exact ⟨rfl, hH⟩
set_option maxHeartbeats 4000000 in
theorem dn_sectors {E w : World} {R : List Hp} (hH : Has E w [R]) :
    Calls Try.prog 61 #[(.pointer none)] w fun e w' => e = .returned (.int .i64 (0 : Int)) ∧ Has E w' [R] := by
  refine c_enter (args := [(.pointer none)]) Try.func61 rfl Try.ntmps61 (by simp) ?_
  refine wp_seq_k fun K1 hK1 => ?_
  refine c_region ?_
  refine s_op (o_assign (v := (.int .i64 0)) rfl ?_)
  refine s_nil ?_
  refine t_norm (hK1 _ _ ?_)
  refine wp_seq_k fun K2 hK2 => ?_
  refine wp_seq_k fun K3 hK3 => ?_
  refine c_region ?_
  refine s_op (o_move (v := (.pointer none)) rfl ?_)
  refine s_op (o_pnil (p := none) Try.underlying46 rfl rfl ?_)
  refine s_nil ?_
  refine t_norm (hK3 _ _ ?_)
  refine c_true rfl rfl ?_
  refine wp_seq_k fun K4 hK4 => ?_
  refine c_region ?_
  refine s_op (o_assign (v := (.int .i64 0)) rfl ?_)
  refine s_nil ?_
  refine t_norm (hK4 _ _ ?_)
  refine wp_ret ?_
  refine t_ret (c_ret1 Try.results61  (v := (.int .i64 0)) rfl ?_)
  exact ⟨rfl, hH⟩
set_option maxHeartbeats 4000000 in
theorem dn_on {E w : World} {R : List Hp} (hH : Has E w [R]) :
    Calls Try.prog 62 #[(.pointer none)] w fun e w' => e = .returned (.bool false) ∧ Has E w' [R] := by
  refine c_enter (args := [(.pointer none)]) Try.func62 rfl Try.ntmps62 (by simp) ?_
  refine wp_seq_k fun K1 hK1 => ?_
  refine c_region ?_
  refine s_op (o_assign (v := (.bool false)) rfl ?_)
  refine s_nil ?_
  refine t_norm (hK1 _ _ ?_)
  refine wp_seq_k fun K2 hK2 => ?_
  refine c_region ?_
  refine s_op (o_move (v := (.pointer none)) rfl ?_)
  refine s_op (o_pnnil (p := none) Try.underlying46 rfl rfl ?_)
  refine s_op (o_move (v := (.bool false)) rfl ?_)
  refine s_off (b' := false) 5 rfl rfl rfl ?_
  refine s_off (b' := false) 5 rfl rfl rfl ?_
  refine s_off (b' := false) 5 rfl rfl rfl ?_
  refine s_off (b' := false) 5 rfl rfl rfl ?_
  refine s_off (b' := false) 5 rfl rfl rfl ?_
  refine s_op (o_pick_f (u := (.bool false)) rfl rfl ?_)
  refine s_op (o_assign (v := (.bool false)) rfl ?_)
  refine s_nil ?_
  refine t_norm (hK2 _ _ ?_)
  refine wp_ret ?_
  refine c_ret1 Try.results62  (v := (.bool false)) rfl ?_
  exact ⟨rfl, hH⟩
set_option maxHeartbeats 4000000 in
theorem dn_uses {E w : World} {R : List Hp} (hH : Has E w [R]) :
    Calls Try.prog 63 #[(.pointer none)] w fun e w' => e = .returned (.int .i64 (0 : Int)) ∧ Has E w' [R] := by
  refine c_enter (args := [(.pointer none)]) Try.func63 rfl Try.ntmps63 (by simp) ?_
  refine wp_seq_k fun K1 hK1 => ?_
  refine c_region ?_
  refine s_op (o_assign (v := (.int .i64 0)) rfl ?_)
  refine s_nil ?_
  refine t_norm (hK1 _ _ ?_)
  refine wp_seq_k fun K2 hK2 => ?_
  refine wp_seq_k fun K3 hK3 => ?_
  refine c_region ?_
  refine s_op (o_move (v := (.pointer none)) rfl ?_)
  refine s_op (o_pnil (p := none) Try.underlying46 rfl rfl ?_)
  refine s_nil ?_
  refine t_norm (hK3 _ _ ?_)
  refine c_true rfl rfl ?_
  refine wp_seq_k fun K4 hK4 => ?_
  refine c_region ?_
  refine s_op (o_assign (v := (.int .i64 0)) rfl ?_)
  refine s_nil ?_
  refine t_norm (hK4 _ _ ?_)
  refine wp_ret ?_
  refine t_ret (c_ret1 Try.results63  (v := (.int .i64 0)) rfl ?_)
  exact ⟨rfl, hH⟩
set_option maxHeartbeats 4000000 in
theorem dn_arm {E w : World} {R : List Hp} (hH : Has E w [R]) (n : Int) :
    Calls Try.prog 60 #[(.pointer none), (.int .i64 n)] w fun e w' => e = .returned (.tuple #[]) ∧ Has E w' [R] := by
  refine c_enter (args := [(.pointer none), (.int .i64 n)]) Try.func60 rfl Try.ntmps60 (by simp) ?_
  refine wp_seq_k fun K1 hK1 => ?_
  refine c_region ?_
  refine s_op (o_move (v := (.pointer none)) rfl ?_)
  refine s_op (o_pnnil (p := none) Try.underlying46 rfl rfl ?_)
  refine s_nil ?_
  refine t_norm (hK1 _ _ ?_)
  refine c_false rfl rfl ?_
  refine wp_skip ?_
  refine c_end0 Try.results60  ?_
  exact ⟨rfl, hH⟩
set_option maxHeartbeats 4000000 in
theorem dn_has {E w : World} {R : List Hp} (hH : Has E w [R]) (n : Int) :
    Calls Try.prog 85 #[(.pointer none), (.int .i64 n)] w fun e w' => e = .returned (.bool false) ∧ Has E w' [R] := by
  refine c_enter (args := [(.pointer none), (.int .i64 n)]) Try.func85 rfl Try.ntmps85 (by simp) ?_
  refine wp_seq_k fun K1 hK1 => ?_
  refine c_region ?_
  refine s_op (o_assign (v := (.bool false)) rfl ?_)
  refine s_nil ?_
  refine t_norm (hK1 _ _ ?_)
  refine wp_seq_k fun K2 hK2 => ?_
  refine c_region ?_
  refine s_op (o_move (v := (.int .i64 n)) rfl ?_)
  refine s_op (o_geq (a := n) (b := 0) rfl rfl ?_)
  refine s_op (o_move (v := (.bool (decide (0 ≤ n)))) rfl ?_)
  by_cases h3 : 0 ≤ n
  · -- 0 ≤ n
    refine s_on 7 rfl (congrArg Value.bool (decide_eq_true h3)) (o_move (v := (.int .i64 n)) rfl ?_)
    refine s_on 7 rfl (congrArg Value.bool (decide_eq_true h3)) (o_move (v := (.pointer none)) rfl ?_)
    refine s_on 7 rfl (congrArg Value.bool (decide_eq_true h3)) (o_callf (vs := #[(.pointer none)]) ca61 rfl (args1 rfl) (dn_sectors hH.all ) ?_)
    rintro _ w6 ⟨rfl, hX4⟩
    refine ⟨_, rfl, ?_⟩
    have hH5 := hX4.of_all
    refine s_on 7 rfl (congrArg Value.bool (decide_eq_true h3)) (o_lss (a := n) (b := (0 : Int)) rfl rfl ?_)
    refine s_op (o_pick_t (u := (.bool (decide (n < (0 : Int))))) ((rfl : _ = _).trans (congrArg Value.bool (decide_eq_true h3))) rfl ?_)
    refine s_op (o_assign (v := (.bool (decide (n < (0 : Int))))) rfl ?_)
    refine s_nil ?_
    refine t_norm (hK2 _ _ ?_)
    refine wp_ret ?_
    refine c_ret1 Try.results85  (v := (.bool (decide (n < (0 : Int))))) rfl ?_
    exact ⟨by first | rfl | rw [decide_eq_false (by omega)], hH5⟩
  · -- not: 0 ≤ n
    refine s_off (b' := false) 7 rfl (congrArg Value.bool (decide_eq_false h3)) rfl ?_
    refine s_off (b' := false) 7 rfl (congrArg Value.bool (decide_eq_false h3)) rfl ?_
    refine s_off (b' := false) 7 rfl (congrArg Value.bool (decide_eq_false h3)) rfl ?_
    refine s_off (b' := false) 7 rfl (congrArg Value.bool (decide_eq_false h3)) rfl ?_
    refine s_op (o_pick_f (u := (.bool false)) ((rfl : _ = _).trans (congrArg Value.bool (decide_eq_false h3))) rfl ?_)
    refine s_op (o_assign (v := (.bool false)) rfl ?_)
    refine s_nil ?_
    refine t_norm (hK2 _ _ ?_)
    refine wp_ret ?_
    refine c_ret1 Try.results85  (v := (.bool false)) rfl ?_
    exact ⟨by first | rfl | rw [decide_eq_false (by omega)], hH⟩
set_option maxHeartbeats 4000000 in
theorem dn_write {E w : World} {R : List Hp} (hH : Has E w [R]) (n : Int) (v : Value) :
    Calls Try.prog 29 #[(.pointer none), (.int .i64 n), v] w fun e w' => e = .returned (.int .i64 (1 : Int)) ∧ Has E w' [R] := by
  refine c_enter (args := [(.pointer none), (.int .i64 n), v]) Try.func29 rfl Try.ntmps29 (by simp) ?_
  refine wp_seq_k fun K1 hK1 => ?_
  refine c_region ?_
  refine s_op (o_assign (v := (.int .i64 0)) rfl ?_)
  refine s_nil ?_
  refine t_norm (hK1 _ _ ?_)
  refine wp_seq_k fun K2 hK2 => ?_
  refine wp_seq_k fun K3 hK3 => ?_
  refine c_region ?_
  refine s_op (o_move (v := (.pointer none)) rfl ?_)
  refine s_op (o_pnil (p := none) Try.underlying46 rfl rfl ?_)
  refine s_nil ?_
  refine t_norm (hK3 _ _ ?_)
  refine c_true rfl rfl ?_
  refine wp_seq_k fun K4 hK4 => ?_
  refine c_region ?_
  refine s_op (o_assign (v := (.int .i64 1)) rfl ?_)
  refine s_nil ?_
  refine t_norm (hK4 _ _ ?_)
  refine wp_ret ?_
  refine t_ret (c_ret1 Try.results29  (v := (.int .i64 1)) rfl ?_)
  exact ⟨rfl, hH⟩
set_option maxHeartbeats 4000000 in
theorem dn_sync {E w : World} {R : List Hp} (hH : Has E w [R]) :
    Calls Try.prog 31 #[(.pointer none)] w fun e w' => e = .returned (.int .i64 (1 : Int)) ∧ Has E w' [R] := by
  refine c_enter (args := [(.pointer none)]) Try.func31 rfl Try.ntmps31 (by simp) ?_
  refine wp_seq_k fun K1 hK1 => ?_
  refine c_region ?_
  refine s_op (o_assign (v := (.int .i64 0)) rfl ?_)
  refine s_nil ?_
  refine t_norm (hK1 _ _ ?_)
  refine wp_seq_k fun K2 hK2 => ?_
  refine wp_seq_k fun K3 hK3 => ?_
  refine c_region ?_
  refine s_op (o_move (v := (.pointer none)) rfl ?_)
  refine s_op (o_pnil (p := none) Try.underlying46 rfl rfl ?_)
  refine s_nil ?_
  refine t_norm (hK3 _ _ ?_)
  refine c_true rfl rfl ?_
  refine wp_seq_k fun K4 hK4 => ?_
  refine c_region ?_
  refine s_op (o_assign (v := (.int .i64 1)) rfl ?_)
  refine s_nil ?_
  refine t_norm (hK4 _ _ ?_)
  refine wp_ret ?_
  refine t_ret (c_ret1 Try.results31  (v := (.int .i64 1)) rfl ?_)
  exact ⟨rfl, hH⟩
set_option maxHeartbeats 4000000 in
theorem dn_loose {E w : World} {R : List Hp} (hH : Has E w [R]) :
    Calls Try.prog 35 #[(.pointer none)] w fun e w' => e = .returned (.slice none 0 0) ∧ Has E w' [R] := by
  refine c_enter (args := [(.pointer none)]) Try.func35 rfl Try.ntmps35 (by simp) ?_
  refine wp_seq_k fun K1 hK1 => ?_
  refine c_region ?_
  refine s_op (o_assign (v := (.slice none 0 0)) rfl ?_)
  refine s_nil ?_
  refine t_norm (hK1 _ _ ?_)
  refine wp_seq_k fun K2 hK2 => ?_
  refine wp_seq_k fun K3 hK3 => ?_
  refine c_region ?_
  refine s_op (o_move (v := (.pointer none)) rfl ?_)
  refine s_op (o_pnil (p := none) Try.underlying46 rfl rfl ?_)
  refine s_nil ?_
  refine t_norm (hK3 _ _ ?_)
  refine c_true rfl rfl ?_
  refine wp_seq_k fun K4 hK4 => ?_
  refine c_region ?_
  refine s_op (o_assign (v := (.slice none 0 0)) rfl ?_)
  refine s_nil ?_
  refine t_norm (hK4 _ _ ?_)
  refine wp_ret ?_
  refine t_ret (c_ret1 Try.results35  (v := (.slice none 0 0)) rfl ?_)
  exact ⟨rfl, hH⟩
set_option maxHeartbeats 4000000 in
theorem dn_crash {E w : World} {R : List Hp} (hH : Has E w [R]) (v : Value) :
    Calls Try.prog 32 #[(.pointer none), v] w fun e w' => e = .returned (.tuple #[]) ∧ Has E w' [R] := by
  refine c_enter (args := [(.pointer none), v]) Try.func32 rfl Try.ntmps32 (by simp) ?_
  refine wp_seq_k fun K1 hK1 => ?_
  refine c_region ?_
  refine s_op (o_move (v := (.pointer none)) rfl ?_)
  refine s_op (o_pnnil (p := none) Try.underlying46 rfl rfl ?_)
  refine s_nil ?_
  refine t_norm (hK1 _ _ ?_)
  refine c_false rfl rfl ?_
  refine wp_skip ?_
  refine c_end0 Try.results32  ?_
  exact ⟨rfl, hH⟩
set_option maxHeartbeats 4000000 in
theorem dn_read {E w : World} {R : List Hp} (hH : Has E w [R]) (n : Int) :
    Calls Try.prog 33 #[(.pointer none), (.int .i64 n)] w fun e w' => e = .returned (.tuple #[(S ([] : List UInt8)), (.int .i64 (1 : Int))]) ∧ Has E w' [R] := by
  refine c_enter (args := [(.pointer none), (.int .i64 n)]) Try.func33 rfl Try.ntmps33 (by simp) ?_
  refine wp_seq_k fun K1 hK1 => ?_
  refine c_region ?_
  refine s_op (o_assign (v := (S ([] : List UInt8))) rfl ?_)
  refine s_op (o_assign (v := (.int .i64 0)) rfl ?_)
  refine s_nil ?_
  refine t_norm (hK1 _ _ ?_)
  refine wp_seq_k fun K2 hK2 => ?_
  refine wp_block ?_
  refine wp_seq_k fun K3 hK3 => ?_
  refine c_region ?_
  refine s_op (o_move (v := (.pointer none)) rfl ?_)
  refine s_op (o_pnil (p := none) Try.underlying46 rfl rfl ?_)
  refine s_op (o_assign (v := (.bool true)) rfl ?_)
  refine s_nil ?_
  refine t_norm (hK3 _ _ ?_)
  refine c_true rfl rfl ?_
  refine wp_seq_k fun K4 hK4 => ?_
  refine c_region ?_
  refine s_op (o_assign (v := (S ([] : List UInt8))) rfl ?_)
  refine s_op (o_assign (v := (.int .i64 1)) rfl ?_)
  refine s_nil ?_
  refine t_norm (hK4 _ _ ?_)
  refine wp_ret ?_
  refine b_ret (t_ret (c_ret2 Try.results33  (v := (S ([] : List UInt8))) rfl (x := (.int .i64 1)) rfl ?_))
  exact ⟨rfl, hH⟩
set_option maxHeartbeats 4000000 in
theorem dn_lasts {E w : World} {R : List Hp} (hH : Has E w [R]) (n : Int) :
    Calls Try.prog 51 #[(.pointer none), (.int .i64 n)] w fun e w' => e = .returned (S ([] : List UInt8)) ∧ Has E w' [R] := by
  refine c_enter (args := [(.pointer none), (.int .i64 n)]) Try.func51 rfl Try.ntmps51 (by simp) ?_
  refine wp_seq_k fun K1 hK1 => ?_
  refine c_region ?_
  refine s_op (o_assign (v := (S ([] : List UInt8))) rfl ?_)
  refine s_nil ?_
  refine t_norm (hK1 _ _ ?_)
  refine wp_seq_k fun K2 hK2 => ?_
  refine wp_seq_k fun K3 hK3 => ?_
  refine c_region ?_
  refine s_op (o_move (v := (.pointer none)) rfl ?_)
  refine s_op (o_move (v := (.int .i64 n)) rfl ?_)
  refine s_op (o_callf (vs := #[(.pointer none), (.int .i64 n)]) ca85 rfl (args2 rfl rfl) (dn_has hH.all n) ?_)
  rintro _ w6 ⟨rfl, hX4⟩
  refine ⟨_, rfl, ?_⟩
  have hH5 := hX4.of_all
  refine s_op (o_not rfl ?_)
  refine s_nil ?_
  refine t_norm (hK3 _ _ ?_)
  refine c_true rfl rfl ?_
  refine wp_seq_k fun K7 hK7 => ?_
  refine c_region ?_
  refine s_op (o_assign (v := (S ([] : List UInt8))) rfl ?_)
  refine s_nil ?_
  refine t_norm (hK7 _ _ ?_)
  refine wp_ret ?_
  refine t_ret (c_ret1 Try.results51  (v := (S ([] : List UInt8))) rfl ?_)
  exact ⟨rfl, hH5⟩
set_option maxHeartbeats 4000000 in
theorem dn_put {E w : World} {R : List Hp} (hH : Has E w [R]) (n : Int) (s : Bs) (hs : s.length ≤ 1000000000) :
    Calls Try.prog 52 #[(.pointer none), (.int .i64 n), (S s)] w fun e w' => e = .returned (.int .i64 (1 : Int)) ∧ Has E w' [R] := by
  refine c_enter (args := [(.pointer none), (.int .i64 n), (S s)]) Try.func52 rfl Try.ntmps52 (by simp) ?_
  refine wp_seq_k fun K1 hK1 => ?_
  refine c_region ?_
  refine s_op (o_assign (v := (.int .i64 0)) rfl ?_)
  refine s_nil ?_
  refine t_norm (hK1 _ _ ?_)
  refine wp_seq_k fun K2 hK2 => ?_
  refine c_region ?_
  refine s_op (o_move (v := (S s)) rfl ?_)
  refine s_op (o_buildSlice (ps := #[(0, (S s))]) (cells := #[(S s)]) Try.underlying53 ti9 (by decide) (parts1 rfl) (by kernel_rfl) hH fun b3 w4 hH5 => ?_)
  have hfl6 : ([s] : List Bs).flatten = s := by simp
  refine s_op (o_callf (vs := #[(.slice (some ⟨b3, 0, none⟩) 1 1)]) ca84 rfl (args1 rfl) ((by have h_ := filled_c hH5.all (l := [s]) ((sl_lit (f := sV) (l := [s]) rfl rfl (by simp)).mono (seg_sub 0 rfl)) (by simp) (by simp; omega); rwa [hfl6] at h_)) ?_)
  rintro _ w9 ⟨rfl, hX7⟩
  refine ⟨_, rfl, ?_⟩
  have hH8 := hX7.of_all
  refine s_op (o_move (v := (.tuple #[(S (if s.length ≤ 64 then fillS s else [])), (.bool (decide (s.length ≤ 64)))])) rfl ?_)
  refine s_op (o_extract (v := (S (if s.length ≤ 64 then fillS s else []))) rfl rfl ?_)
  refine s_op (o_extract (v := (.bool (decide (s.length ≤ 64)))) rfl rfl ?_)
  refine s_op (o_assign (v := (S (if s.length ≤ 64 then fillS s else []))) rfl ?_)
  refine s_op (o_assign (v := (.bool (decide (s.length ≤ 64)))) rfl ?_)
  refine s_nil ?_
  refine t_norm (hK2 _ _ ?_)
  refine wp_seq_k fun K10 hK10 => ?_
  refine wp_seq_k fun K11 hK11 => ?_
  refine c_region ?_
  refine s_op (o_move (v := (.bool (decide (s.length ≤ 64)))) rfl ?_)
  refine s_op (o_not2 (b := decide (s.length ≤ 64)) (b' := decide (¬ (s.length ≤ 64))) rfl not_dec ?_)
  refine s_op (o_move (v := (.bool (decide (¬ (s.length ≤ 64))))) rfl ?_)
  by_cases h12 : ¬ (s.length ≤ 64)
  · -- ¬ (s.length ≤ 64)
    refine s_off (b' := true) 17 rfl (congrArg Value.bool (decide_eq_true h12)) rfl ?_
    refine s_off (b' := true) 17 rfl (congrArg Value.bool (decide_eq_true h12)) rfl ?_
    refine s_off (b' := true) 17 rfl (congrArg Value.bool (decide_eq_true h12)) rfl ?_
    refine s_off (b' := true) 17 rfl (congrArg Value.bool (decide_eq_true h12)) rfl ?_
    refine s_op (o_pick_t (u := (.bool true)) ((rfl : _ = _).trans (congrArg Value.bool (decide_eq_true h12))) rfl ?_)
    refine s_nil ?_
    refine t_norm (hK11 _ _ ?_)
    refine c_true rfl rfl ?_
    refine wp_seq_k fun K13 hK13 => ?_
    refine c_region ?_
    refine s_op (o_assign (v := (.int .i64 1)) rfl ?_)
    refine s_nil ?_
    refine t_norm (hK13 _ _ ?_)
    refine wp_ret ?_
    refine t_ret (c_ret1 Try.results52  (v := (.int .i64 1)) rfl ?_)
    have hH14 : Has E w9 [R] := (hH8.front 1 rfl).first 1 rfl
    exact ⟨rfl, hH14⟩
  · -- not: ¬ (s.length ≤ 64)
    refine s_on 17 rfl (congrArg Value.bool (decide_eq_false h12)) (o_move (v := (.pointer none)) rfl ?_)
    refine s_on 17 rfl (congrArg Value.bool (decide_eq_false h12)) (o_move (v := (.int .i64 n)) rfl ?_)
    refine s_on 17 rfl (congrArg Value.bool (decide_eq_false h12)) (o_callf (vs := #[(.pointer none), (.int .i64 n)]) ca85 rfl (args2 rfl rfl) (dn_has hH8.all n) ?_)
    rintro _ w17 ⟨rfl, hX15⟩
    refine ⟨_, rfl, ?_⟩
    have hH16 := hX15.of_all
    refine s_on 17 rfl (congrArg Value.bool (decide_eq_false h12)) (o_not rfl ?_)
    refine s_op (o_pick_f (u := (.bool true)) ((rfl : _ = _).trans (congrArg Value.bool (decide_eq_false h12))) rfl ?_)
    refine s_nil ?_
    refine t_norm (hK11 _ _ ?_)
    refine c_true rfl rfl ?_
    refine wp_seq_k fun K18 hK18 => ?_
    refine c_region ?_
    refine s_op (o_assign (v := (.int .i64 1)) rfl ?_)
    refine s_nil ?_
    refine t_norm (hK18 _ _ ?_)
    refine wp_ret ?_
    refine t_ret (c_ret1 Try.results52  (v := (.int .i64 1)) rfl ?_)
    have hH19 : Has E w17 [R] := (hH16.front 1 rfl).first 1 rfl
    exact ⟨rfl, hH19⟩
end Go.Q
