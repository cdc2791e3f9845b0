/-
  Parts of a walk: what functions of the program compute, each told by a theorem.
-/
import Derived.Test.YtcffibbdbalmjaaQEA3
import Derived.Test.YtcffibbdbalmjaaQAreaA
set_option linter.unusedVariables false
set_option linter.unusedSimpArgs false
namespace Go.Q
open Go.Proofs
set_option linter.unusedVariables false
set_option maxRecDepth 100000
attribute [local irreducible] wpList OK Code.wp
set_option maxHeartbeats 4000000 in
theorem join6_c {E w : World} {R : List Hp} (hH : Has E w [R]) {v : Value} {l : List Bs} (hv : Sl R 1 v l.length (l.map sV)) (hn : ∀ t ∈ l, t.length ≤ 140737488355328) (hl : l.length ≤ 1000) :
    Calls Try.prog 73 #[v] w fun e w' => e = .returned (S l.flatten) ∧ Has E w' [R] := by
  refine c_enter (args := [v]) Try.func73 rfl Try.ntmps73 (by simp) ?_
  refine wp_seq_k fun K1 hK1 => ?_
  refine c_region ?_
  refine s_op (o_assign (v := (S ([] : List UInt8))) rfl ?_)
  refine s_nil ?_
  refine t_norm (hK1 _ _ ?_)
  refine wp_seq_k fun K2 hK2 => ?_
  refine c_region ?_
  refine s_op (o_assign (v := (S ([] : List UInt8))) rfl ?_)
  refine s_nil ?_
  refine t_norm (hK2 _ _ ?_)
  refine wp_seq_k fun K3 hK3 => ?_
  refine wp_seq_k fun K4 hK4 => ?_
  refine c_region ?_
  refine s_op (o_assign (v := (.int .i64 0)) rfl ?_)
  refine s_nil ?_
  refine t_norm (hK4 _ _ ?_)
  refine wp_block ?_
  let I6 : Nat → (Nat → Value) → World → Prop := fun n__ r__ w__ => ∃ (k : Nat) (t : Bs), n__ = l.length - k ∧ Has E w__ [R] ∧ (k ≤ l.length) ∧ (t = (l.take k).flatten) ∧ (t.length ≤ k * 140737488355328) ∧ r__ 0 = v ∧ r__ 2 = (S ([] : List UInt8)) ∧ r__ 3 = (S t) ∧ r__ 4 = (.int .i64 (k : Int))
  refine c_loop I6 _ ⟨0, ([] : Bs), rfl, hH, Nat.zero_le _, (by simp), (by simp), rfl, rfl, rfl, rfl⟩ ?_
  rintro n_ r9 w7 ⟨k, t, rfl, hH8, hk, ht, htl, e5_0, e5_2, e5_3, e5_4⟩
  refine wp_seq_k fun K10 hK10 => ?_
  refine wp_seq_k fun K11 hK11 => ?_
  refine c_region ?_
  refine s_op (o_move (v := (.int .i64 (k : Int))) e5_4 ?_)
  refine s_op (o_move (v := v) e5_0 ?_)
  refine s_op (o_lenS Try.underlying53 rfl hv ?_)
  refine s_op (o_lss (a := (k : Int)) (b := ((l.length : Nat) : Int)) rfl rfl ?_)
  refine s_nil ?_
  refine t_norm (hK11 _ _ ?_)
  refine c_cond rfl (fun h12 => ?_) (fun h12 => ?_)
  · -- (k : Int) < ((l.length : Nat) : Int)
    refine wp_skip ?_
    refine t_norm (hK10 _ _ ?_)
    refine wp_seq_k fun K13 hK13 => ?_
    refine wp_block ?_
    refine c_region ?_
    refine s_op (o_move (v := (S t)) e5_3 ?_)
    refine s_op (o_move (v := v) e5_0 ?_)
    refine s_op (o_move (v := (.int .i64 (k : Int))) e5_4 ?_)
    obtain ⟨x17, hx18⟩ : ∃ x_, l[((k : Int)).toNat]? = some x_ := get_some (by omega)
    refine s_op (o_index1 Try.underlying53 ti9 rfl hv rfl (by omega) hx18 fun b14 o15 hc16 => ?_)
    refine s_op (o_load1 (v := (S x17)) Try.underlying9 rfl rfl hH8 (seg_sub 0 rfl) hc16 ?_)
    refine s_op (o_sadd rfl rfl (by have := hn _ (List.mem_of_getElem? (by assumption)); first | omega | (simp only [List.length_append]; omega)) ?_)
    refine s_op (o_assign (v := (S (t ++ x17))) rfl ?_)
    refine s_nil ?_
    refine b_norm ?_
    refine t_norm (hK13 _ _ ?_)
    refine c_region ?_
    refine s_op (o_move (v := (.int .i64 (k : Int))) e5_4 ?_)
    refine s_op (o_add (a := (k : Int)) (b := 1) rfl rfl (w64 (by omega) (by omega)) ?_)
    refine s_op (o_assign (v := (.int .i64 ((k : Int) + 1))) rfl ?_)
    refine s_nil ?_
    refine t_norm ⟨l.length - (k + 1), _, rfl, ?_, ?_⟩
    · omega
    · exact ⟨(k + 1), (t ++ x17), rfl, hH8, (by omega), (by rw [flatten_take_succ (show l[k]? = some _ from hx18), ← ht]), (by have := hn _ (List.mem_of_getElem? hx18); simp only [List.length_append]; omega), e5_0, e5_2, rfl, rfl⟩
  · -- not: (k : Int) < ((l.length : Nat) : Int)
    refine wp_exit ?_
    refine t_exit (t_exit (x_in (?_)))
    refine t_norm (hK3 _ _ ?_)
    refine wp_seq_k fun K19 hK19 => ?_
    refine c_region ?_
    refine s_op (o_move (v := (S t)) e5_3 ?_)
    refine s_op (o_assign (v := (S t)) rfl ?_)
    refine s_nil ?_
    refine t_norm (hK19 _ _ ?_)
    refine wp_ret ?_
    refine c_ret1 Try.results73  (v := (S t)) rfl ?_
    have e_ : k = l.length := by omega
    rw [e_, List.take_of_length_le (Nat.le_refl _)] at ht
    exact ⟨by rw [ht], hH8⟩
set_option maxHeartbeats 4000000 in
theorem great6_c {E w : World} {R : List Hp} (hH : Has E w [R]) {v : Value} {l : List AAct} (hv : Sl R 5 v l.length (l.flatMap aaC)) (hok : ∀ a ∈ l, AaOk R a) :
    Calls Try.prog 21 #[v] w fun e w' => ∃ b, e = .returned (.bool b) ∧ (b = false → AFine l) ∧ Has E w' [R] := by
  have hn_ := hv.le
  have hml := fun (x : AAct) (hx : x ∈ l) => (hok x hx).1.le
  have hml2 := fun (x : AAct) (hx : x ∈ l) => (hok x hx).2.1.le
  refine c_enter (args := [v]) Try.func21 rfl Try.ntmps21 (by simp) ?_
  refine wp_seq_k fun K1 hK1 => ?_
  refine c_region ?_
  refine s_op (o_assign (v := (.bool false)) rfl ?_)
  refine s_nil ?_
  refine t_norm (hK1 _ _ ?_)
  refine wp_seq_k fun K2 hK2 => ?_
  refine wp_seq_k fun K3 hK3 => ?_
  refine c_region ?_
  refine s_op (o_move (v := v) rfl ?_)
  refine s_op (o_lenS Try.underlying44 rfl hv ?_)
  refine s_op (o_gtr (a := ((l.length : Nat) : Int)) (b := 30) rfl rfl ?_)
  refine s_nil ?_
  refine t_norm (hK3 _ _ ?_)
  refine c_cond rfl (fun h4 => ?_) (fun h4 => ?_)
  · -- 30 < ((l.length : Nat) : Int)
    refine wp_seq_k fun K5 hK5 => ?_
    refine c_region ?_
    refine s_op (o_assign (v := (.bool true)) rfl ?_)
    refine s_nil ?_
    refine t_norm (hK5 _ _ ?_)
    refine wp_ret ?_
    refine t_ret (c_ret1 Try.results21  (v := (.bool true)) rfl ?_)
    exact ⟨true, rfl, (fun g => by cases g), hH⟩
  · -- not: 30 < ((l.length : Nat) : Int)
    refine wp_skip ?_
    refine t_norm (hK2 _ _ ?_)
    refine wp_seq_k fun K6 hK6 => ?_
    refine wp_seq_k fun K7 hK7 => ?_
    refine c_region ?_
    refine s_op (o_assign (v := (.int .i64 0)) rfl ?_)
    refine s_nil ?_
    refine t_norm (hK7 _ _ ?_)
    refine wp_block ?_
    let I9 : Nat → (Nat → Value) → World → Prop := fun n__ r__ w__ => ∃ (k : Nat), n__ = l.length - k ∧ Has E w__ [R] ∧ (k ≤ l.length) ∧ (∀ a ∈ l.take k, AFin a) ∧ r__ 0 = v ∧ r__ 3 = (.int .i64 (k : Int)) ∧ r__ 6 = (.bool (decide (30 < ((l.length : Nat) : Int))))
    refine c_loop I9 _ ⟨0, rfl, hH, Nat.zero_le _, (by simp), rfl, rfl, rfl⟩ ?_
    rintro n_ r12 w10 ⟨k, rfl, hH11, hk, hfn, e8_0, e8_3, e8_6⟩
    refine wp_seq_k fun K13 hK13 => ?_
    refine wp_seq_k fun K14 hK14 => ?_
    refine c_region ?_
    refine s_op (o_move (v := (.int .i64 (k : Int))) e8_3 ?_)
    refine s_op (o_move (v := v) e8_0 ?_)
    refine s_op (o_lenS Try.underlying44 rfl hv ?_)
    refine s_op (o_lss (a := (k : Int)) (b := ((l.length : Nat) : Int)) rfl rfl ?_)
    refine s_nil ?_
    refine t_norm (hK14 _ _ ?_)
    refine c_cond rfl (fun h15 => ?_) (fun h15 => ?_)
    · -- (k : Int) < ((l.length : Nat) : Int)
      refine wp_skip ?_
      refine t_norm (hK13 _ _ ?_)
      refine wp_seq_k fun K16 hK16 => ?_
      refine wp_block ?_
      refine wp_seq_k fun K17 hK17 => ?_
      refine c_region ?_
      refine s_op (o_move (v := v) e8_0 ?_)
      refine s_op (o_move (v := (.int .i64 (k : Int))) e8_3 ?_)
      obtain ⟨x21, hx22⟩ : ∃ x_, l[((k : Int)).toNat]? = some x_ := get_some (by omega)
      refine s_op (o_indexF aaC_len Try.underlying44 ti56 rfl hv rfl rfl (by omega) hx22 fun b18 o19 hc20 => ?_)
      refine s_op (o_fieldAddr (k := o19 + 3) (fun _ => by kernel_rfl) rfl ?_)
      refine s_op (o_load1 (v := x21.dv) Try.underlying53 rfl rfl hH11 (seg_sub 0 rfl) (CellsAt.field (k := 3) (ds := [x21.dv]) hc20 rfl) ?_)
      refine s_op (o_lenS Try.underlying53 rfl (hok x21 (List.mem_of_getElem? hx22)).1 ?_)
      refine s_op (o_gtr (a := ((x21.data.length : Nat) : Int)) (b := 6) rfl rfl ?_)
      refine s_op (o_move (v := (.bool (decide (6 < ((x21.data.length : Nat) : Int))))) rfl ?_)
      by_cases h23 : 6 < ((x21.data.length : Nat) : Int)
      · -- 6 < ((x21.data.length : Nat) : Int)
        refine s_off (b' := true) 20 rfl (congrArg Value.bool (decide_eq_true h23)) rfl ?_
        refine s_off (b' := true) 20 rfl (congrArg Value.bool (decide_eq_true h23)) rfl ?_
        refine s_off (b' := true) 20 rfl (congrArg Value.bool (decide_eq_true h23)) rfl ?_
        refine s_off (b' := true) 20 rfl (congrArg Value.bool (decide_eq_true h23)) rfl ?_
        refine s_off (b' := true) 20 rfl (congrArg Value.bool (decide_eq_true h23)) rfl ?_
        refine s_off (b' := true) 20 rfl (congrArg Value.bool (decide_eq_true h23)) rfl ?_
        refine s_off (b' := true) 20 rfl (congrArg Value.bool (decide_eq_true h23)) rfl ?_
        refine s_off (b' := true) 20 rfl (congrArg Value.bool (decide_eq_true h23)) rfl ?_
        refine s_op (o_pick_t (u := (.bool true)) ((rfl : _ = _).trans (congrArg Value.bool (decide_eq_true h23))) rfl ?_)
        refine s_op (o_move (v := (.bool true)) rfl ?_)
        refine s_off (b' := true) 30 rfl rfl rfl ?_
        refine s_off (b' := true) 30 rfl rfl rfl ?_
        refine s_off (b' := true) 30 rfl rfl rfl ?_
        refine s_off (b' := true) 30 rfl rfl rfl ?_
        refine s_off (b' := true) 30 rfl rfl rfl ?_
        refine s_off (b' := true) 30 rfl rfl rfl ?_
        refine s_off (b' := true) 30 rfl rfl rfl ?_
        refine s_op (o_pick_t (u := (.bool true)) rfl rfl ?_)
        refine s_nil ?_
        refine t_norm (hK17 _ _ ?_)
        refine c_true rfl rfl ?_
        refine wp_seq_k fun K24 hK24 => ?_
        refine c_region ?_
        refine s_op (o_assign (v := (.bool true)) rfl ?_)
        refine s_nil ?_
        refine t_norm (hK24 _ _ ?_)
        refine wp_ret ?_
        refine b_ret (t_ret (t_ret (b_ret (t_ret (c_ret1 Try.results21  (v := (.bool true)) rfl ?_)))))
        exact ⟨true, rfl, (fun g => by cases g), hH11⟩
      · -- not: 6 < ((x21.data.length : Nat) : Int)
        refine s_on 20 rfl (congrArg Value.bool (decide_eq_false h23)) (o_move (v := v) e8_0 ?_)
        refine s_on 20 rfl (congrArg Value.bool (decide_eq_false h23)) (o_move (v := (.int .i64 (k : Int))) e8_3 ?_)
        refine s_on 20 rfl (congrArg Value.bool (decide_eq_false h23)) (o_indexF aaC_len Try.underlying44 ti56 rfl hv rfl rfl (by omega) hx22 fun b25 o26 hc27 => ?_)
        refine s_on 20 rfl (congrArg Value.bool (decide_eq_false h23)) (o_fieldAddr (k := o26 + 3) (fun _ => by kernel_rfl) rfl ?_)
        refine s_on 20 rfl (congrArg Value.bool (decide_eq_false h23)) (o_load1 (v := x21.dv) Try.underlying53 rfl rfl hH11 (seg_sub 0 rfl) (CellsAt.field (k := 3) (ds := [x21.dv]) hc27 rfl) ?_)
        refine s_on 20 rfl (congrArg Value.bool (decide_eq_false h23)) (o_callf (vs := #[x21.dv]) ca73 rfl (args1 rfl) (join6_c hH11.all (l := x21.data) ((hok x21 (List.mem_of_getElem? hx22)).1.mono (seg_sub 0 rfl)) (hok _ (List.mem_of_getElem? hx22)).2.2 (by omega)) ?_)
        rintro _ w30 ⟨rfl, hX28⟩
        refine ⟨_, rfl, ?_⟩
        have hH29 := hX28.of_all
        refine s_on 20 rfl (congrArg Value.bool (decide_eq_false h23)) (o_slen Try.underlying9 rfl ?_)
        refine s_on 20 rfl (congrArg Value.bool (decide_eq_false h23)) (o_gtr (a := (x21.data.flatten.length : Int)) (b := 2000) rfl rfl ?_)
        refine s_op (o_pick_f (u := (.bool (decide (2000 < (x21.data.flatten.length : Int))))) ((rfl : _ = _).trans (congrArg Value.bool (decide_eq_false h23))) rfl ?_)
        refine s_op (o_move (v := (.bool (decide (2000 < (x21.data.flatten.length : Int))))) rfl ?_)
        by_cases h31 : 2000 < (x21.data.flatten.length : Int)
        · -- 2000 < (x21.data.flatten.length : Int)
          refine s_off (b' := true) 30 rfl (congrArg Value.bool (decide_eq_true h31)) rfl ?_
          refine s_off (b' := true) 30 rfl (congrArg Value.bool (decide_eq_true h31)) rfl ?_
          refine s_off (b' := true) 30 rfl (congrArg Value.bool (decide_eq_true h31)) rfl ?_
          refine s_off (b' := true) 30 rfl (congrArg Value.bool (decide_eq_true h31)) rfl ?_
          refine s_off (b' := true) 30 rfl (congrArg Value.bool (decide_eq_true h31)) rfl ?_
          refine s_off (b' := true) 30 rfl (congrArg Value.bool (decide_eq_true h31)) rfl ?_
          refine s_off (b' := true) 30 rfl (congrArg Value.bool (decide_eq_true h31)) rfl ?_
          refine s_op (o_pick_t (u := (.bool true)) ((rfl : _ = _).trans (congrArg Value.bool (decide_eq_true h31))) rfl ?_)
          refine s_nil ?_
          refine t_norm (hK17 _ _ ?_)
          refine c_true rfl rfl ?_
          refine wp_seq_k fun K32 hK32 => ?_
          refine c_region ?_
          refine s_op (o_assign (v := (.bool true)) rfl ?_)
          refine s_nil ?_
          refine t_norm (hK32 _ _ ?_)
          refine wp_ret ?_
          refine b_ret (t_ret (t_ret (b_ret (t_ret (c_ret1 Try.results21  (v := (.bool true)) rfl ?_)))))
          exact ⟨true, rfl, (fun g => by cases g), hH29⟩
        · -- not: 2000 < (x21.data.flatten.length : Int)
          refine s_on 30 rfl (congrArg Value.bool (decide_eq_false h31)) (o_move (v := v) e8_0 ?_)
          refine s_on 30 rfl (congrArg Value.bool (decide_eq_false h31)) (o_move (v := (.int .i64 (k : Int))) e8_3 ?_)
          refine s_on 30 rfl (congrArg Value.bool (decide_eq_false h31)) (o_indexF aaC_len Try.underlying44 ti56 rfl hv rfl rfl (by omega) hx22 fun b33 o34 hc35 => ?_)
          refine s_on 30 rfl (congrArg Value.bool (decide_eq_false h31)) (o_fieldAddr (k := o34 + 4) (fun _ => by kernel_rfl) rfl ?_)
          refine s_on 30 rfl (congrArg Value.bool (decide_eq_false h31)) (o_load1 (v := x21.kv) Try.underlying54 rfl rfl hH29 (seg_sub 0 rfl) (CellsAt.field (k := 4) (ds := [x21.kv]) hc35 rfl) ?_)
          refine s_on 30 rfl (congrArg Value.bool (decide_eq_false h31)) (o_lenS Try.underlying54 rfl (hok x21 (List.mem_of_getElem? hx22)).2.1 ?_)
          refine s_on 30 rfl (congrArg Value.bool (decide_eq_false h31)) (o_gtr (a := ((x21.keep.length : Nat) : Int)) (b := 40) rfl rfl ?_)
          refine s_op (o_pick_f (u := (.bool (decide (40 < ((x21.keep.length : Nat) : Int))))) ((rfl : _ = _).trans (congrArg Value.bool (decide_eq_false h31))) rfl ?_)
          refine s_nil ?_
          refine t_norm (hK17 _ _ ?_)
          refine c_cond rfl (fun h36 => ?_) (fun h36 => ?_)
          · -- 40 < ((x21.keep.length : Nat) : Int)
            refine wp_seq_k fun K37 hK37 => ?_
            refine c_region ?_
            refine s_op (o_assign (v := (.bool true)) rfl ?_)
            refine s_nil ?_
            refine t_norm (hK37 _ _ ?_)
            refine wp_ret ?_
            refine b_ret (t_ret (t_ret (b_ret (t_ret (c_ret1 Try.results21  (v := (.bool true)) rfl ?_)))))
            exact ⟨true, rfl, (fun g => by cases g), hH29⟩
          · -- not: 40 < ((x21.keep.length : Nat) : Int)
            refine wp_skip ?_
            refine b_norm ?_
            refine t_norm (hK16 _ _ ?_)
            refine c_region ?_
            refine s_op (o_move (v := (.int .i64 (k : Int))) e8_3 ?_)
            refine s_op (o_add (a := (k : Int)) (b := 1) rfl rfl (w64 (by omega) (by omega)) ?_)
            refine s_op (o_assign (v := (.int .i64 ((k : Int) + 1))) rfl ?_)
            refine s_nil ?_
            refine t_norm ⟨l.length - (k + 1), _, rfl, ?_, ?_⟩
            · omega
            · exact ⟨(k + 1), rfl, hH29, (by omega), (AFine.snoc hfn (show l[k]? = some _ from hx22) ⟨by omega, by omega, by omega⟩), e8_0, rfl, e8_6⟩
    · -- not: (k : Int) < ((l.length : Nat) : Int)
      refine wp_exit ?_
      refine t_exit (t_exit (x_in (?_)))
      refine t_norm (hK6 _ _ ?_)
      refine wp_seq_k fun K38 hK38 => ?_
      refine c_region ?_
      refine s_op (o_assign (v := (.bool false)) rfl ?_)
      refine s_nil ?_
      refine t_norm (hK38 _ _ ?_)
      refine wp_ret ?_
      refine c_ret1 Try.results21  (v := (.bool false)) rfl ?_
      have e_ : k = l.length := by omega
      rw [e_, List.take_of_length_le (Nat.le_refl _)] at hfn
      exact ⟨false, rfl, (fun _ => ⟨by omega, hfn⟩), hH11⟩
set_option maxHeartbeats 4000000 in
theorem anew_c {E w : World} {R sg : List Hp} {db pb : Nat} {p : Pw} {la : List Bs} {lo : List (Int × Bs)} (hH : Has E w [sg, [Hp.one pb (.cells #[(.bool p.off), (.bool p.armed), (.int .i64 p.left), (.int .i64 p.uses)] 101 (0, 0))], R]) (hd : DevAt pb sg db la lo) {fr n : Int} (hfr : 0 ≤ fr) (hn : 1 ≤ n) (hfn : fr + n ≤ la.length) (hla : la.length ≤ 4096) :
    Calls Try.prog 24 #[(.pointer (some ⟨db, 0, none⟩)), (.int .i64 fr), (.int .i64 n)] w fun e w' => ∃ ab, e = .returned (.pointer (some ⟨ab, 0, none⟩)) ∧ Has E w' [[Hp.one ab (.cells #[(.pointer (some ⟨db, 0, none⟩)), (.int .i64 fr), (.int .i64 n)] 139 (0, 0))], sg, [Hp.one pb (.cells #[(.bool p.off), (.bool p.armed), (.int .i64 p.left), (.int .i64 p.uses)] 101 (0, 0))], R] := by
  refine c_enter (args := [(.pointer (some ⟨db, 0, none⟩)), (.int .i64 fr), (.int .i64 n)]) Try.func24 rfl Try.ntmps24 (by simp) ?_
  refine wp_seq_k fun K1 hK1 => ?_
  refine c_region ?_
  refine s_op (o_assign (v := (.pointer none)) rfl ?_)
  refine s_nil ?_
  refine t_norm (hK1 _ _ ?_)
  refine wp_seq_k fun K2 hK2 => ?_
  refine wp_seq_k fun K3 hK3 => ?_
  refine c_region ?_
  refine s_op (o_move (v := (.int .i64 fr)) rfl ?_)
  refine s_op (o_lss (a := fr) (b := 0) rfl rfl ?_)
  refine s_op (o_move (v := (.bool (decide (fr < 0)))) rfl ?_)
  by_cases h4 : fr < 0
  · -- fr < 0
    exfalso; omega
  · -- not: fr < 0
    refine s_on 9 rfl (congrArg Value.bool (decide_eq_false h4)) (o_move (v := (.int .i64 n)) rfl ?_)
    refine s_on 9 rfl (congrArg Value.bool (decide_eq_false h4)) (o_lss (a := n) (b := 1) rfl rfl ?_)
    refine s_op (o_pick_f (u := (.bool (decide (n < 1)))) ((rfl : _ = _).trans (congrArg Value.bool (decide_eq_false h4))) rfl ?_)
    refine s_op (o_move (v := (.bool (decide (n < 1)))) rfl ?_)
    by_cases h5 : n < 1
    · -- n < 1
      exfalso; omega
    · -- not: n < 1
      refine s_on 13 rfl (congrArg Value.bool (decide_eq_false h5)) (o_move (v := (.int .i64 n)) rfl ?_)
      refine s_on 13 rfl (congrArg Value.bool (decide_eq_false h5)) (o_move (v := (.pointer (some ⟨db, 0, none⟩))) rfl ?_)
      refine s_on 13 rfl (congrArg Value.bool (decide_eq_false h5)) (o_callf (vs := #[(.pointer (some ⟨db, 0, none⟩))]) ca61 rfl (args1 rfl) (sectors_d (p := p) (la := la) (lo := lo) ((hH.front 1 rfl).front 1 rfl).all2 hd ) ?_)
      rintro _ w8 ⟨rfl, hX6⟩
      refine ⟨_, rfl, ?_⟩
      have hH7 : Has E w8 [sg, [Hp.one pb (.cells #[(.bool p.off), (.bool p.armed), (.int .i64 p.left), (.int .i64 p.uses)] 101 (0, 0))], R] := hX6.of_all2
      refine s_on 13 rfl (congrArg Value.bool (decide_eq_false h5)) (o_gtr (a := n) (b := ((la.length : Nat) : Int)) rfl rfl ?_)
      refine s_op (o_pick_f (u := (.bool (decide (((la.length : Nat) : Int) < n)))) ((rfl : _ = _).trans (congrArg Value.bool (decide_eq_false h5))) rfl ?_)
      refine s_op (o_move (v := (.bool (decide (((la.length : Nat) : Int) < n)))) rfl ?_)
      by_cases h9 : ((la.length : Nat) : Int) < n
      · -- ((la.length : Nat) : Int) < n
        exfalso; omega
      · -- not: ((la.length : Nat) : Int) < n
        refine s_on 19 rfl (congrArg Value.bool (decide_eq_false h9)) (o_move (v := (.int .i64 fr)) rfl ?_)
        refine s_on 19 rfl (congrArg Value.bool (decide_eq_false h9)) (o_move (v := (.pointer (some ⟨db, 0, none⟩))) rfl ?_)
        refine s_on 19 rfl (congrArg Value.bool (decide_eq_false h9)) (o_callf (vs := #[(.pointer (some ⟨db, 0, none⟩))]) ca61 rfl (args1 rfl) (sectors_d (p := p) (la := la) (lo := lo) ((hH7.front 1 rfl).front 1 rfl).all2 hd ) ?_)
        rintro _ w12 ⟨rfl, hX10⟩
        refine ⟨_, rfl, ?_⟩
        have hH11 : Has E w12 [sg, [Hp.one pb (.cells #[(.bool p.off), (.bool p.armed), (.int .i64 p.left), (.int .i64 p.uses)] 101 (0, 0))], R] := hX10.of_all2
        refine s_on 19 rfl (congrArg Value.bool (decide_eq_false h9)) (o_move (v := (.int .i64 n)) rfl ?_)
        refine s_on 19 rfl (congrArg Value.bool (decide_eq_false h9)) (o_sub (a := ((la.length : Nat) : Int)) (b := n) rfl rfl (w64 (by omega) (by omega)) ?_)
        refine s_on 19 rfl (congrArg Value.bool (decide_eq_false h9)) (o_gtr (a := fr) (b := ((la.length : Nat) : Int) - n) rfl rfl ?_)
        refine s_op (o_pick_f (u := (.bool (decide (((la.length : Nat) : Int) - n < fr)))) ((rfl : _ = _).trans (congrArg Value.bool (decide_eq_false h9))) rfl ?_)
        refine s_nil ?_
        refine t_norm (hK3 _ _ ?_)
        refine c_cond rfl (fun h13 => ?_) (fun h13 => ?_)
        · -- ((la.length : Nat) : Int) - n < fr
          exfalso; omega
        · -- not: ((la.length : Nat) : Int) - n < fr
          refine wp_skip ?_
          refine t_norm (hK2 _ _ ?_)
          refine wp_seq_k fun K14 hK14 => ?_
          refine c_region ?_
          refine s_op (o_move (v := (.pointer (some ⟨db, 0, none⟩))) rfl ?_)
          refine s_op (o_move (v := (.int .i64 fr)) rfl ?_)
          refine s_op (o_move (v := (.int .i64 n)) rfl ?_)
          refine s_op (o_sight (v := (.agg #[(.pointer (some ⟨db, 0, none⟩)), (.int .i64 fr), (.int .i64 n)])) (fun _ => by kernel_rfl) ?_)
          refine s_op (o_box (cs := #[(.pointer (some ⟨db, 0, none⟩)), (.int .i64 fr), (.int .i64 n)]) rfl rfl hH11 fun b15 w16 hH17 => ?_)
          refine s_op (o_assign (v := (.pointer (some ⟨b15, 0, none⟩))) rfl ?_)
          refine s_nil ?_
          refine t_norm (hK14 _ _ ?_)
          refine wp_ret ?_
          refine c_ret1 Try.results24  (v := (.pointer (some ⟨b15, 0, none⟩))) rfl ?_
          exact ⟨_, rfl, hH17⟩
set_option maxHeartbeats 4000000 in
theorem awake6_c {E w : World} {R : List Hp} (hH : Has E w [R]) :
    Calls Try.prog 22 #[] w fun e w' => e = .returned (.bool true) ∧ Has E w' [R] := by
  refine c_enter (args := []) Try.func22 rfl Try.ntmps22 (by simp) ?_
  refine wp_seq_k fun K1 hK1 => ?_
  refine c_region ?_
  refine s_op (o_assign (v := (.bool false)) rfl ?_)
  refine s_nil ?_
  refine t_norm (hK1 _ _ ?_)
  refine wp_seq_k fun K2 hK2 => ?_
  refine c_region ?_
  refine s_op (o_callf (vs := #[(.pointer none), (.int .i64 3)]) ca23 rfl (args2 rfl rfl) (new_nil hH.all (n := 3) (by decide)) ?_)
  rintro _ w9 ⟨db3, pb4, sg5, rfl, hd6, hX7⟩
  refine ⟨_, rfl, ?_⟩
  have hH8 : Has E w9 [sg5, [Hp.one pb4 (.cells #[(.bool (Pw.mk false false 0 0).off), (.bool (Pw.mk false false 0 0).armed), (.int .i64 (Pw.mk false false 0 0).left), (.int .i64 (Pw.mk false false 0 0).uses)] 101 (0, 0))], R] := hX7.of_all2
  refine s_op (o_callf (vs := #[(.pointer (some ⟨db3, 0, none⟩)), (.int .i64 1), (.int .i64 1)]) ca24 rfl (args3 rfl rfl rfl) (anew_c ((hH8.front 1 rfl).front 1 rfl).all2 hd6 (by omega) (by omega) (by first | omega | (simp; omega) | simp) (by first | omega | (simp; omega) | simp)) ?_)
  rintro _ w13 ⟨ab10, rfl, hX11⟩
  refine ⟨_, rfl, ?_⟩
  have hH12 : Has E w13 [[Hp.one ab10 (.cells #[(.pointer (some ⟨db3, 0, none⟩)), (.int .i64 1), (.int .i64 1)] 139 (0, 0))], sg5, [Hp.one pb4 (.cells #[(.bool (Pw.mk false false 0 0).off), (.bool (Pw.mk false false 0 0).armed), (.int .i64 (Pw.mk false false 0 0).left), (.int .i64 (Pw.mk false false 0 0).uses)] 101 (0, 0))], R] := hX11.of_all3
  refine s_op (o_assign (v := (.pointer (some ⟨ab10, 0, none⟩))) rfl ?_)
  refine s_nil ?_
  refine t_norm (hK2 _ _ ?_)
  refine wp_seq_k fun K14 hK14 => ?_
  refine c_region ?_
  refine s_op (o_move (v := (.pointer (some ⟨ab10, 0, none⟩))) rfl ?_)
  refine s_op (o_buildSlice (ps := #[(0, (S [97, 98])), (1, (S [99]))]) (cells := #[(S [97, 98]), (S [99])]) Try.underlying53 ti9 (by decide) (parts2 rfl rfl) (by kernel_rfl) hH12 fun b15 w16 hH17 => ?_)
  refine s_op (o_callf (vs := #[(.pointer (some ⟨ab10, 0, none⟩)), (.int .i64 62), (.slice (some ⟨b15, 0, none⟩) 2 2)]) ca25 rfl (args3 rfl rfl rfl) (aset_yes (((hH17.front 1 rfl).front 3 rfl).front 3 rfl).all3 hd6 Calm.new (by first | omega | decide | (simp; omega)) (full_blank _) (LoOk.nil _) (by omega) (by omega) (by first | omega | (simp; omega) | simp) (by first | omega | (simp; omega) | simp) (at_ := 62) (data := [[97, 98], [99]]) ((sl_lit (f := sV) (l := [[97, 98], [99]]) rfl rfl (by simp)).mono (seg_sub 0 rfl)) (by first | omega | (simp; omega) | simp) (by first | omega | (simp; omega) | simp) ⟨by first | omega | simp, by first | omega | simp⟩ (by first | omega | (simp; omega) | simp)) ?_)
  rintro _ w25 ⟨sg18, p19, rfl, hd20, hlo21, hp22, hX23⟩
  refine ⟨_, rfl, ?_⟩
  have hH24 : Has E w25 [sg18, [Hp.one pb4 (.cells #[(.bool p19.off), (.bool p19.armed), (.int .i64 p19.left), (.int .i64 p19.uses)] 101 (0, 0))], [Hp.one ab10 (.cells #[(.pointer (some ⟨db3, 0, none⟩)), (.int .i64 1), (.int .i64 1)] 139 (0, 0))], [Hp.one b15 (.cells #[(S [97, 98]), (S [99])] 9 (0, 0))], R] := hX23.of_all3
  refine s_op (o_assign (v := (.int .i64 (0 : Int))) rfl ?_)
  refine s_nil ?_
  refine t_norm (hK14 _ _ ?_)
  refine wp_seq_k fun K26 hK26 => ?_
  refine c_region ?_
  refine s_op (o_move (v := (.pointer (some ⟨ab10, 0, none⟩))) rfl ?_)
  refine s_op (o_callf (vs := #[(.pointer (some ⟨ab10, 0, none⟩)), (.int .i64 0), (.int .i64 64)]) ca26 rfl (args3 rfl rfl rfl) (aget_c (((hH24.front 2 rfl).front 2 rfl).front 2 rfl).all3 hd20 hp22 (by first | omega | decide | (simp; omega)) (full_blank _) hlo21 (by omega) (by omega) (by first | omega | (simp; omega) | simp) (by first | omega | (simp; omega) | simp) (at_ := 0) ⟨by omega, by omega⟩ (size := 64) ⟨by omega, by omega⟩) ?_)
  rintro _ w29 ⟨rfl, hX27⟩
  refine ⟨_, rfl, ?_⟩
  have hH28 : Has E w29 [sg18, [Hp.one pb4 (.cells #[(.bool p19.off), (.bool p19.armed), (.int .i64 p19.left), (.int .i64 p19.uses)] 101 (0, 0))], [Hp.one ab10 (.cells #[(.pointer (some ⟨db3, 0, none⟩)), (.int .i64 1), (.int .i64 1)] 139 (0, 0))], [Hp.one b15 (.cells #[(S [97, 98]), (S [99])] 9 (0, 0))], R] := hX27.of_all3
  refine s_op (o_move (v := (.tuple #[(S (getP (List.replicate 3 blankS) (setP (List.replicate 3 blankS) (allP 1 (1 * 64) (62 % (1 * 64)) (([[97, 98], [99]].flatten).length : Int)) ([] : List (Int × Bs)) ([[97, 98], [99]].flatten)) (allP 1 (1 * 64) (0 % (1 * 64)) 64))), (.int .i64 (0 : Int))])) rfl ?_)
  refine s_op (o_extract (v := (S (getP (List.replicate 3 blankS) (setP (List.replicate 3 blankS) (allP 1 (1 * 64) (62 % (1 * 64)) (([[97, 98], [99]].flatten).length : Int)) ([] : List (Int × Bs)) ([[97, 98], [99]].flatten)) (allP 1 (1 * 64) (0 % (1 * 64)) 64)))) rfl rfl ?_)
  refine s_op (o_extract (v := (.int .i64 (0 : Int))) rfl rfl ?_)
  refine s_op (o_assign (v := (S (getP (List.replicate 3 blankS) (setP (List.replicate 3 blankS) (allP 1 (1 * 64) (62 % (1 * 64)) (([[97, 98], [99]].flatten).length : Int)) ([] : List (Int × Bs)) ([[97, 98], [99]].flatten)) (allP 1 (1 * 64) (0 % (1 * 64)) 64)))) rfl ?_)
  refine s_op (o_assign (v := (.int .i64 (0 : Int))) rfl ?_)
  refine s_nil ?_
  refine t_norm (hK26 _ _ ?_)
  refine wp_seq_k fun K30 hK30 => ?_
  refine c_region ?_
  refine s_op (o_move (v := (.pointer (some ⟨ab10, 0, none⟩))) rfl ?_)
  refine s_op (o_pnnil (p := some _) Try.underlying48 rfl rfl ?_)
  refine s_op (o_move (v := (.bool true)) rfl ?_)
  refine s_on 17 rfl rfl (o_move (v := (.int .i64 (0 : Int))) rfl ?_)
  refine s_on 17 rfl rfl (o_eql (a := (0 : Int)) (b := 0) rfl rfl ?_)
  refine s_op (o_pick_t (u := (.bool (decide ((0 : Int) = 0)))) rfl rfl ?_)
  refine s_op (o_move (v := (.bool (decide ((0 : Int) = 0)))) rfl ?_)
  by_cases h31 : (0 : Int) = 0
  · -- (0 : Int) = 0
    refine s_on 21 rfl (congrArg Value.bool (decide_eq_true h31)) (o_move (v := (.int .i64 (0 : Int))) rfl ?_)
    refine s_on 21 rfl (congrArg Value.bool (decide_eq_true h31)) (o_eql (a := (0 : Int)) (b := 0) rfl rfl ?_)
    refine s_op (o_pick_t (u := (.bool (decide ((0 : Int) = 0)))) ((rfl : _ = _).trans (congrArg Value.bool (decide_eq_true h31))) rfl ?_)
    refine s_op (o_move (v := (.bool (decide ((0 : Int) = 0)))) rfl ?_)
    refine s_on 25 rfl (congrArg Value.bool (decide_eq_true h31)) (o_move (v := (S (getP (List.replicate 3 blankS) (setP (List.replicate 3 blankS) (allP 1 (1 * 64) (62 % (1 * 64)) (([[97, 98], [99]].flatten).length : Int)) ([] : List (Int × Bs)) ([[97, 98], [99]].flatten)) (allP 1 (1 * 64) (0 % (1 * 64)) 64)))) rfl ?_)
    refine s_on 25 rfl (congrArg Value.bool (decide_eq_true h31)) (o_slen Try.underlying9 rfl ?_)
    refine s_on 25 rfl (congrArg Value.bool (decide_eq_true h31)) (o_eql (a := ((getP (List.replicate 3 blankS) (setP (List.replicate 3 blankS) (allP 1 (1 * 64) (62 % (1 * 64)) (([[97, 98], [99]].flatten).length : Int)) ([] : List (Int × Bs)) ([[97, 98], [99]].flatten)) (allP 1 (1 * 64) (0 % (1 * 64)) 64)).length : Int)) (b := 64) rfl rfl ?_)
    refine s_op (o_pick_t (u := (.bool (decide (((getP (List.replicate 3 blankS) (setP (List.replicate 3 blankS) (allP 1 (1 * 64) (62 % (1 * 64)) (([[97, 98], [99]].flatten).length : Int)) ([] : List (Int × Bs)) ([[97, 98], [99]].flatten)) (allP 1 (1 * 64) (0 % (1 * 64)) 64)).length : Int) = 64)))) ((rfl : _ = _).trans (congrArg Value.bool (decide_eq_true h31))) rfl ?_)
    refine s_op (o_move (v := (.bool (decide (((getP (List.replicate 3 blankS) (setP (List.replicate 3 blankS) (allP 1 (1 * 64) (62 % (1 * 64)) (([[97, 98], [99]].flatten).length : Int)) ([] : List (Int × Bs)) ([[97, 98], [99]].flatten)) (allP 1 (1 * 64) (0 % (1 * 64)) 64)).length : Int) = 64)))) rfl ?_)
    by_cases h32 : ((getP (List.replicate 3 blankS) (setP (List.replicate 3 blankS) (allP 1 (1 * 64) (62 % (1 * 64)) (([[97, 98], [99]].flatten).length : Int)) ([] : List (Int × Bs)) ([[97, 98], [99]].flatten)) (allP 1 (1 * 64) (0 % (1 * 64)) 64)).length : Int) = 64
    · -- ((getP (List.replicate 3 blankS) (setP (List.replicate 3 blankS) (allP 1 (1 * 64) (62 % (1 * 64)) (([[97, 98], [99]].flatten).length : Int)) ([] : List (Int × Bs)) ([[97, 98], [99]].flatten)) (allP 1 (1 * 64) (0 % (1 * 64)) 64)).length : Int) = 64
      refine s_on 30 rfl (congrArg Value.bool (decide_eq_true h32)) (o_move (v := (S (getP (List.replicate 3 blankS) (setP (List.replicate 3 blankS) (allP 1 (1 * 64) (62 % (1 * 64)) (([[97, 98], [99]].flatten).length : Int)) ([] : List (Int × Bs)) ([[97, 98], [99]].flatten)) (allP 1 (1 * 64) (0 % (1 * 64)) 64)))) rfl ?_)
      obtain ⟨c33, hx34⟩ : ∃ x_, (getP (List.replicate 3 blankS) (setP (List.replicate 3 blankS) (allP 1 (1 * 64) (62 % (1 * 64)) (([[97, 98], [99]].flatten).length : Int)) ([] : List (Int × Bs)) ([[97, 98], [99]].flatten)) (allP 1 (1 * 64) (0 % (1 * 64)) 64))[((0 : Int)).toNat]? = some x_ := get_some (by decide +kernel)
      have c33_lt := c33.toNat_lt
      refine s_on 30 rfl (congrArg Value.bool (decide_eq_true h32)) (o_sidx Try.underlying9 rfl rfl (by omega) hx34 ?_)
      refine s_on 30 rfl (congrArg Value.bool (decide_eq_true h32)) (o_eql (a := (c33.toNat : Int)) (b := 99) rfl rfl ?_)
      refine s_op (o_pick_t (u := (.bool (decide ((c33.toNat : Int) = 99)))) ((rfl : _ = _).trans (congrArg Value.bool (decide_eq_true h32))) rfl ?_)
      refine s_op (o_move (v := (.bool (decide ((c33.toNat : Int) = 99)))) rfl ?_)
      by_cases h35 : (c33.toNat : Int) = 99
      · -- (c33.toNat : Int) = 99
        refine s_on 35 rfl (congrArg Value.bool (decide_eq_true h35)) (o_move (v := (S (getP (List.replicate 3 blankS) (setP (List.replicate 3 blankS) (allP 1 (1 * 64) (62 % (1 * 64)) (([[97, 98], [99]].flatten).length : Int)) ([] : List (Int × Bs)) ([[97, 98], [99]].flatten)) (allP 1 (1 * 64) (0 % (1 * 64)) 64)))) rfl ?_)
        refine s_on 35 rfl (congrArg Value.bool (decide_eq_true h35)) (o_ssl_l Try.underlying9 rfl rfl (by omega) (by decide +kernel) ?_)
        refine s_on 35 rfl (congrArg Value.bool (decide_eq_true h35)) (o_seql (a := (getP (List.replicate 3 blankS) (setP (List.replicate 3 blankS) (allP 1 (1 * 64) (62 % (1 * 64)) (([[97, 98], [99]].flatten).length : Int)) ([] : List (Int × Bs)) ([[97, 98], [99]].flatten)) (allP 1 (1 * 64) (0 % (1 * 64)) 64)).drop 62) (b := [97, 98]) rfl rfl ?_)
        refine s_op (o_pick_t (u := (.bool (decide ((getP (List.replicate 3 blankS) (setP (List.replicate 3 blankS) (allP 1 (1 * 64) (62 % (1 * 64)) (([[97, 98], [99]].flatten).length : Int)) ([] : List (Int × Bs)) ([[97, 98], [99]].flatten)) (allP 1 (1 * 64) (0 % (1 * 64)) 64)).drop 62 = [97, 98])))) ((rfl : _ = _).trans (congrArg Value.bool (decide_eq_true h35))) rfl ?_)
        refine s_op (o_move (v := (.bool (decide ((getP (List.replicate 3 blankS) (setP (List.replicate 3 blankS) (allP 1 (1 * 64) (62 % (1 * 64)) (([[97, 98], [99]].flatten).length : Int)) ([] : List (Int × Bs)) ([[97, 98], [99]].flatten)) (allP 1 (1 * 64) (0 % (1 * 64)) 64)).drop 62 = [97, 98])))) rfl ?_)
        by_cases h36 : (getP (List.replicate 3 blankS) (setP (List.replicate 3 blankS) (allP 1 (1 * 64) (62 % (1 * 64)) (([[97, 98], [99]].flatten).length : Int)) ([] : List (Int × Bs)) ([[97, 98], [99]].flatten)) (allP 1 (1 * 64) (0 % (1 * 64)) 64)).drop 62 = [97, 98]
        · -- (getP (List.replicate 3 blankS) (setP (List.replicate 3 blankS) (allP 1 (1 * 64) (62 % (1 * 64)) (([[97, 98], [99]].flatten).length : Int)) ([] : List (Int × Bs)) ([[97, 98], [99]].flatten)) (allP 1 (1 * 64) (0 % (1 * 64)) 64)).drop 62 = [97, 98]
          refine s_on 40 rfl (congrArg Value.bool (decide_eq_true h36)) (o_move (v := (.pointer (some ⟨ab10, 0, none⟩))) rfl ?_)
          refine s_on 40 rfl (congrArg Value.bool (decide_eq_true h36)) (o_callf (vs := #[(.pointer (some ⟨ab10, 0, none⟩))]) ca74 rfl (args1 rfl) (alen_c (hH28.front 2 rfl).all1 (by decide)) ?_)
          rintro _ w39 ⟨rfl, hX37⟩
          refine ⟨_, rfl, ?_⟩
          have hH38 : Has E w39 [[Hp.one ab10 (.cells #[(.pointer (some ⟨db3, 0, none⟩)), (.int .i64 1), (.int .i64 1)] 139 (0, 0))], sg18, [Hp.one pb4 (.cells #[(.bool p19.off), (.bool p19.armed), (.int .i64 p19.left), (.int .i64 p19.uses)] 101 (0, 0))], [Hp.one b15 (.cells #[(S [97, 98]), (S [99])] 9 (0, 0))], R] := hX37.of_all1
          refine s_on 40 rfl (congrArg Value.bool (decide_eq_true h36)) (o_eql (a := 1 * 64) (b := 64) rfl rfl ?_)
          refine s_op (o_pick_t (u := (.bool (decide (1 * 64 = 64)))) ((rfl : _ = _).trans (congrArg Value.bool (decide_eq_true h36))) rfl ?_)
          refine s_op (o_assign (v := (.bool (decide (1 * 64 = 64)))) rfl ?_)
          refine s_nil ?_
          refine t_norm (hK30 _ _ ?_)
          refine wp_ret ?_
          refine c_ret1 Try.results22  (v := (.bool (decide (1 * 64 = 64)))) rfl ?_
          have hH40 : Has E w39 [R] := (hH38.front 4 rfl).first 1 rfl
          exact ⟨by first | rfl | rw [decide_eq_true (by decide)], hH40⟩
        · -- not: (getP (List.replicate 3 blankS) (setP (List.replicate 3 blankS) (allP 1 (1 * 64) (62 % (1 * 64)) (([[97, 98], [99]].flatten).length : Int)) ([] : List (Int × Bs)) ([[97, 98], [99]].flatten)) (allP 1 (1 * 64) (0 % (1 * 64)) 64)).drop 62 = [97, 98]
          exact absurd (by decide +kernel) h36
      · -- not: (c33.toNat : Int) = 99
        exact absurd (by have g_ := hx34; rw [show ((getP (List.replicate 3 blankS) (setP (List.replicate 3 blankS) (allP 1 (1 * 64) (62 % (1 * 64)) (([[97, 98], [99]].flatten).length : Int)) ([] : List (Int × Bs)) ([[97, 98], [99]].flatten)) (allP 1 (1 * 64) (0 % (1 * 64)) 64)))[((0 : Int)).toNat]? = some 99 from by decide +kernel] at g_; rw [← Option.some.inj g_]; rfl) h35
    · -- not: ((getP (List.replicate 3 blankS) (setP (List.replicate 3 blankS) (allP 1 (1 * 64) (62 % (1 * 64)) (([[97, 98], [99]].flatten).length : Int)) ([] : List (Int × Bs)) ([[97, 98], [99]].flatten)) (allP 1 (1 * 64) (0 % (1 * 64)) 64)).length : Int) = 64
      exact absurd (by decide +kernel) h32
  · -- not: (0 : Int) = 0
    exact absurd (by decide +kernel) h31
end Go.Q
