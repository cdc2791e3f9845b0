/-
  Parts of a walk: what functions of the program compute, each told by a theorem.
-/
import Derived.Test.YtagicdbeacmffaaQT10
import Derived.Test.YtagicdbeacmffaaQT9
import Derived.Test.YtagicdbeacmffaaQC9b
import Derived.Test.YtagicdbeacmffaaQF2
set_option linter.unusedVariables false
set_option linter.unusedSimpArgs false
namespace Go.Q
open Go.Proofs
set_option linter.unusedVariables false
set_option maxRecDepth 100000
attribute [local irreducible] wpList OK Code.wp
set_option maxHeartbeats 4000000 in
theorem ClockRises_c {E w : World} {R : List Hp} (hH : Has E w [R]) {v : Value} {l : List ActL} (hv : Sl R 6 v l.length (l.flatMap actC)) (hok : ∀ a ∈ l, ActOk R a) :
    Calls Try.prog 3 #[v] w fun e w' => e = .returned (.bool true) ∧ Has E w' [R] := by
  have hn_ := hv.le
  refine c_enter (args := [v]) Try.func3 rfl Try.ntmps3 (by simp) ?_
  refine wp_seq_k fun K21 hK21 => ?_
  refine c_region ?_
  refine s_op (o_assign (v := (.bool false)) rfl ?_)
  refine s_nil ?_
  refine t_norm (hK21 _ _ ?_)
  refine wp_seq_k fun K22 hK22 => ?_
  refine wp_seq_k fun K23 hK23 => ?_
  refine c_region ?_
  refine s_op (o_move (v := v) rfl ?_)
  refine s_op (o_callf (vs := #[v]) ca11 rfl (args1 rfl) (great_c hH.all (l := l) (hv.mono (seg_sub 0 rfl)) (fun a ha => (hok a ha).2.1.mono (seg_sub 0 rfl))) ?_)
  rintro _ w26 ⟨rfl, hX24⟩
  refine ⟨_, rfl, ?_⟩
  have hH25 := hX24.of_all
  refine s_op (o_move (v := (.bool (greatS l))) rfl ?_)
  rcases Bool.eq_false_or_eq_true (greatS l) with h27 | h27
  · -- greatS l
    refine s_off (b' := true) 14 rfl (congrArg Value.bool h27) rfl ?_
    refine s_off (b' := true) 14 rfl (congrArg Value.bool h27) rfl ?_
    refine s_op (o_pick_t (u := (.bool true)) ((rfl : _ = _).trans (congrArg Value.bool h27)) rfl ?_)
    refine s_nil ?_
    refine t_norm (hK23 _ _ ?_)
    refine c_true rfl rfl ?_
    refine wp_seq_k fun K28 hK28 => ?_
    refine c_region ?_
    refine s_op (o_callf (vs := #[]) ca12 rfl (args0) (awake9_c hH25.all) ?_)
    rintro _ w31 ⟨rfl, hX29⟩
    refine ⟨_, rfl, ?_⟩
    have hH30 := hX29.of_all
    refine s_op (o_assign (v := (.bool true)) rfl ?_)
    refine s_nil ?_
    refine t_norm (hK28 _ _ ?_)
    refine wp_ret ?_
    refine t_ret (c_ret1 Try.results3 (v := (.bool true)) rfl ?_)
    exact ⟨rfl, hH30⟩
  · -- not: greatS l
    have hl60 := greatS_len' h27
    refine s_on 14 rfl (congrArg Value.bool h27) (o_callf (vs := #[]) ca12 rfl (args0) (awake9_c hH25.all) ?_)
    rintro _ w34 ⟨rfl, hX32⟩
    refine ⟨_, rfl, ?_⟩
    have hH33 := hX32.of_all
    refine s_on 14 rfl (congrArg Value.bool h27) (o_not rfl ?_)
    refine s_op (o_pick_f (u := (.bool false)) ((rfl : _ = _).trans (congrArg Value.bool h27)) rfl ?_)
    refine s_nil ?_
    refine t_norm (hK23 _ _ ?_)
    refine c_false rfl rfl ?_
    refine wp_skip ?_
    refine t_norm (hK22 _ _ ?_)
    refine wp_seq_k fun K35 hK35 => ?_
    refine c_region ?_
    refine s_op (o_callf (vs := #[(.int .i64 8)]) ca13 rfl (args1 rfl) (new_c hH33.all 8 (by decide)) ?_)
    rintro _ w45 ⟨b36, m37, m38, v39, s40, rfl, ho41, hX43⟩
    refine ⟨_, rfl, ?_⟩
    have hH44 : Has E w45 [s40, [Hp.one m37 (.map #[] 0)], [Hp.one m38 (.map #[] 0)], [Hp.one b36 (.cells #[(.int .i64 0), v39, (.map (some m37)), (.map (some m38))] 75 (0, 0))], R] := hX43.of_all4
    have ho42 : Own 3 1 v39 ([0, 0, 0, 0, 0, 0, 0, 0] : List Int).length (([0, 0, 0, 0, 0, 0, 0, 0] : List Int).map iV) s40 := ho41
    refine s_op (o_assign (v := (.pointer (some ⟨b36, 0, none⟩))) rfl ?_)
    refine s_nil ?_
    refine t_norm (hK35 _ _ ?_)
    refine wp_seq_k fun K46 hK46 => ?_
    refine c_region ?_
    refine s_op (o_assign (v := (.slice none 0 0)) rfl ?_)
    refine s_op (o_assign (v := (.slice none 0 0)) rfl ?_)
    refine s_op (o_assign (v := (.slice none 0 0)) rfl ?_)
    refine s_nil ?_
    refine t_norm (hK46 _ _ ?_)
    refine wp_seq_k fun K47 hK47 => ?_
    refine wp_seq_k fun K48 hK48 => ?_
    refine c_region ?_
    refine s_op (o_assign (v := (.int .i64 0)) rfl ?_)
    refine s_nil ?_
    refine t_norm (hK48 _ _ ?_)
    refine wp_block ?_
    let I50 : Nat → (Nat → Value) → World → Prop := fun n__ r__ w__ => ∃ (k : Nat) (hi : Int) (hC : List Hp) (str : List Int) (es1 : Array MapEntry) (k1 : Nat) (pg : List (Int × Int)) (es2 : Array MapEntry) (k2 : Nat) (tx : List (Int × Int)) (vs : Value) (ss : List Hp) (ls : List (Int × Int)) (vp : Value) (sp : List Hp) (lp : List (Int × Int)) (vt : Value) (st : List Hp) (lt : List (Int × Int)), n__ = l.length - k ∧ Has E w__ [hC, [Hp.one m37 (.map es1 k1)], [Hp.one m38 (.map es2 k2)], [Hp.one b36 (.cells #[(.int .i64 hi), v39, (.map (some m37)), (.map (some m38))] 75 (0, 0))], ss, sp, st, R] ∧ (k ≤ l.length) ∧ (Own 3 1 v39 str.length (str.map iV) hC) ∧ (MapII es1 pg) ∧ (MapII es2 tx) ∧ (Own 77 2 vs ls.length (ls.flatMap tmC) ss) ∧ (Own 77 2 vp lp.length (lp.flatMap tmC) sp) ∧ (Own 77 2 vt lt.length (lt.flatMap tmC) st) ∧ (CR k str pg tx ls lp lt) ∧ r__ 0 = v ∧ r__ 3 = (.pointer (some ⟨b36, 0, none⟩)) ∧ r__ 4 = vs ∧ r__ 5 = vp ∧ r__ 6 = vt ∧ r__ 7 = (.int .i64 (k : Int)) ∧ r__ 17 = (.bool false)
    have hH51 : Has E w45 [s40, [Hp.one m37 (.map #[] 0)], [Hp.one m38 (.map #[] 0)], [Hp.one b36 (.cells #[(.int .i64 0), v39, (.map (some m37)), (.map (some m38))] 75 (0, 0))], [], [], [], R] := Has.pick (Has.nil (Has.nil (Has.nil hH44))) [3, 3, 3, 3, 0, 0, 0, 0] (by kernel_rfl)
    refine c_loop I50 _ ⟨0, 0, s40, [0, 0, 0, 0, 0, 0, 0, 0], #[], 0, [], #[], 0, [], (.slice none 0 0), [], [], (.slice none 0 0), [], [], (.slice none 0 0), [], [], rfl, hH51, (by omega), ho42, MapII.nil, MapII.nil, Own.nil 77 2, Own.nil 77 2, Own.nil 77 2, CR.start, rfl, rfl, rfl, rfl, rfl, rfl, rfl⟩ ?_
    rintro n_ r54 w52 ⟨k, hi, hC, str, es1, k1, pg, es2, k2, tx, vs, ss, ls, vp, sp, lp, vt, st, lt, rfl, hH53, hk, hoC, hp1, hp2, hos, hop, hot, hcr, e49_0, e49_3, e49_4, e49_5, e49_6, e49_7, e49_17⟩
    obtain ⟨hl1_, hl2_, hl3_⟩ := hcr.lens
    refine wp_seq_k fun K55 hK55 => ?_
    refine wp_seq_k fun K56 hK56 => ?_
    refine c_region ?_
    refine s_op (o_move (v := (.int .i64 (k : Int))) e49_7 ?_)
    refine s_op (o_move (v := v) e49_0 ?_)
    refine s_op (o_lenS Try.underlying22 rfl hv ?_)
    refine s_op (o_lss (a := (k : Int)) (b := ((l.length : Nat) : Int)) rfl rfl ?_)
    refine s_nil ?_
    refine t_norm (hK56 _ _ ?_)
    refine c_cond rfl (fun h57 => ?_) (fun h57 => ?_)
    · -- (k : Int) < ((l.length : Nat) : Int)
      refine wp_skip ?_
      refine t_norm (hK55 _ _ ?_)
      refine wp_seq_k fun K58 hK58 => ?_
      refine wp_block ?_
      refine wp_seq_k fun K59 hK59 => ?_
      refine c_region ?_
      refine s_op (o_move (v := v) e49_0 ?_)
      refine s_op (o_move (v := (.int .i64 (k : Int))) e49_7 ?_)
      obtain ⟨x63, hx64⟩ : ∃ x_, l[((k : Int)).toNat]? = some x_ := get_some (by omega)
      refine s_op (o_indexF actC_len Try.underlying22 ti30 rfl hv rfl rfl (by omega) hx64 fun b60 o61 hc62 => ?_)
      refine s_op (o_loadN (cs := [(.int .i64 x63.kind), (.int .i64 x63.stream), (.int .i64 x63.page), (.int .i64 x63.txn), (.int .i64 x63.n), x63.more]) Try.underlying30 rfl ti30 rfl hH53 (seg_sub 7 rfl) hc62 ?_)
      refine s_op (o_alloc (cs := #[(.int .i64 0), (.int .i64 0), (.int .i64 0), (.int .i64 0), (.int .i64 0), (.slice none 0 0)]) ti30 rfl hH53 fun b65 w66 hH67 => ?_)
      refine s_eff (o_storeN (vs := [(.int .i64 x63.kind), (.int .i64 x63.stream), (.int .i64 x63.page), (.int .i64 x63.txn), (.int .i64 x63.n), x63.more]) (c' := #[(.int .i64 x63.kind), (.int .i64 x63.stream), (.int .i64 x63.page), (.int .i64 x63.txn), (.int .i64 x63.n), x63.more]) ti30 rfl rfl rfl rfl (by intro u hu; simp only [List.mem_cons, List.not_mem_nil, or_false] at hu; rcases hu with rfl | rfl | rfl | rfl | rfl | rfl <;> first | rfl | exact (hok x63 (List.mem_of_getElem? hx64)).2.1.one) (by simp) (by kernel_rfl) (hH67.front 0 rfl) fun w68 hH69 => ?_)
      refine s_nil ?_
      refine t_norm (hK59 _ _ ?_)
      refine wp_seq_k fun K70 hK70 => ?_
      refine wp_seq_k fun K71 hK71 => ?_
      refine c_region ?_
      refine s_op (o_fieldAddr (k := 0) (fun _ => by kernel_rfl) rfl ?_)
      refine s_op (o_load1 (v := (.int .i64 x63.kind)) Try.underlying3 rfl rfl hH69 (seg_sub 0 rfl) (CellsAt.one rfl) ?_)
      refine s_op (o_eql (a := x63.kind) (b := 2) rfl rfl ?_)
      refine s_nil ?_
      refine t_norm (hK71 _ _ ?_)
      refine c_cond rfl (fun h72 => ?_) (fun h72 => ?_)
      · -- x63.kind = 2
        refine wp_seq_k fun K73 hK73 => ?_
        refine c_region ?_
        refine s_op (o_move (v := (.pointer (some ⟨b36, 0, none⟩))) e49_3 ?_)
        refine s_op (o_fieldAddr (k := 3) (fun _ => by kernel_rfl) rfl ?_)
        refine s_op (o_load1 (v := (.int .i64 x63.txn)) Try.underlying3 rfl rfl hH69 (seg_sub 0 rfl) (CellsAt.one rfl) ?_)
        refine s_op (o_fieldAddr (k := 2) (fun _ => by kernel_rfl) rfl ?_)
        refine s_op (o_load1 (v := (.int .i64 x63.page)) Try.underlying3 rfl rfl hH69 (seg_sub 0 rfl) (CellsAt.one rfl) ?_)
        refine s_op (o_callf (vs := #[(.pointer (some ⟨b36, 0, none⟩)), (.int .i64 x63.txn), (.int .i64 x63.page)]) ca14 rfl (args3 rfl rfl rfl) (csees_c ((((hH69.front 4 rfl).front 4 rfl).front 4 rfl).front 4 rfl).all4 hoC hp1 hp2 hcr.ge x63.txn x63.page) ?_)
        rintro _ w79 ⟨es74, c75, rfl, h76, hX77⟩
        refine ⟨_, rfl, ?_⟩
        have hH78 : Has E w79 [hC, [Hp.one m37 (.map es1 k1)], [Hp.one m38 (.map es74 c75)], [Hp.one b36 (.cells #[(.int .i64 hi), v39, (.map (some m37)), (.map (some m38))] 75 (0, 0))], [Hp.one b65 (.cells #[(.int .i64 x63.kind), (.int .i64 x63.stream), (.int .i64 x63.page), (.int .i64 x63.txn), (.int .i64 x63.n), x63.more] 30 (0, 0))], ss, sp, st, R] := hX77.of_all4
        refine s_nil ?_
        refine t_norm (hK73 _ _ ?_)
        refine wp_seq_k fun K80 hK80 => ?_
        refine wp_seq_k fun K81 hK81 => ?_
        refine c_region ?_
        refine s_op (o_fieldAddr (k := 2) (fun _ => by kernel_rfl) rfl ?_)
        refine s_op (o_load1 (v := (.int .i64 x63.page)) Try.underlying3 rfl rfl hH78 (seg_sub 4 rfl) (CellsAt.one rfl) ?_)
        refine s_op (o_geq (a := x63.page) (b := 0) rfl rfl ?_)
        refine s_nil ?_
        refine t_norm (hK81 _ _ ?_)
        refine c_cond rfl (fun h82 => ?_) (fun h82 => ?_)
        · -- 0 ≤ x63.page
          have hH95 : Has E w79 [hC, [Hp.one m37 (.map es1 k1)], [Hp.one m38 (.map es74 c75)], [Hp.one b36 (.cells #[(.int .i64 hi), v39, (.map (some m37)), (.map (some m38))] 75 (0, 0))], [Hp.one b65 (.cells #[(.int .i64 x63.kind), (.int .i64 x63.stream), (.int .i64 x63.page), (.int .i64 x63.txn), (.int .i64 x63.n), x63.more] 30 (0, 0))], ss, sp, R, st] := Has.pick hH78 [0, 0, 0, 0, 0, 0, 0, 1, 0] (by kernel_rfl)
          refine c_flow2 [hC, [Hp.one m37 (.map es1 k1)], [Hp.one m38 (.map es74 c75)], [Hp.one b36 (.cells #[(.int .i64 hi), v39, (.map (some m37)), (.map (some m38))] 75 (0, 0))], [Hp.one b65 (.cells #[(.int .i64 x63.kind), (.int .i64 x63.stream), (.int .i64 x63.page), (.int .i64 x63.txn), (.int .i64 x63.n), x63.more] 30 (0, 0))], ss, sp, R] (fun i_ => match i_ with | 12 => st | _ => []) (fun i_ v_ h_ m_ => match i_ with | 0 => v_ = vt ∧ h_ = [] | 1 => v_ = (.pointer (some ⟨b65, 3, none⟩)) ∧ h_ = [] | 2 => v_ = (.int .i64 x63.txn) ∧ h_ = [] | 3 => v_ = vt ∧ h_ = [] | 4 => v_ = (.pointer (some ⟨b65, 3, none⟩)) ∧ h_ = [] | 5 => v_ = (.int .i64 x63.txn) ∧ h_ = [] | 6 => v_ = (.int .i64 (findT lt x63.txn)) ∧ h_ = [] | 7 => v_ = vp ∧ h_ = [] | 8 => v_ = (.pointer (some ⟨b65, 2, none⟩)) ∧ h_ = [] | 9 => v_ = (.int .i64 x63.page) ∧ h_ = [] | 10 => v_ = (.int .i64 (findT lp x63.page)) ∧ h_ = [] | 11 => v_ = (.int .i64 (max (findT lt x63.txn) (findT lp x63.page))) ∧ h_ = [] | 12 => ∃ (v89 : Value) (s90 : List Hp), v_ = v89 ∧ h_ = s90 ∧ (Own 77 2 v89 (withT lt x63.txn (max (findT lt x63.txn) (findT lp x63.page))).length ((withT lt x63.txn (max (findT lt x63.txn) (findT lp x63.page))).flatMap tmC) s90) | 13 => ∃ (v89 : Value), m_ 12 = v89 ∧ v_ = v89 ∧ h_ = [] | _ => True) mixed (by kernel_rfl) (flow_has (cs := [st]) hH95 rfl) ?_ ?_
          · intro i_ o_ ho_ r' w' G hs_ ht
            match i_, ho_ with
            | 0, ho_ =>
              obtain rfl := Option.some.inj ho_
              have e6 : r' 6 = vt := (ht.was 6 (by kernel_rfl)).trans e49_6
              have hG := ht.has.drop
              refine o_move (v := vt) e6 ?_
              exact ⟨_, ⟨rfl, rfl⟩, hG⟩
            | 1, ho_ =>
              obtain rfl := Option.some.inj ho_
              have e8 : r' 8 = (.pointer (some ⟨b65, 0, none⟩)) := ht.was 8 (by kernel_rfl)
              have hG := ht.has.drop
              refine o_fieldAddr (k := 3) (fun _ => by kernel_rfl) e8 ?_
              exact ⟨_, ⟨rfl, rfl⟩, hG⟩
            | 2, ho_ =>
              obtain rfl := Option.some.inj ho_
              obtain ⟨e43, eh1⟩ := (ht.done 1 _ rfl rfl).1
              have hG := ht.has.drop
              refine o_load1 (v := (.int .i64 x63.txn)) Try.underlying3 rfl e43 hG (ht.fr [Hp.one b65 (.cells #[(.int .i64 x63.kind), (.int .i64 x63.stream), (.int .i64 x63.page), (.int .i64 x63.txn), (.int .i64 x63.n), x63.more] 30 (0, 0))] (by simp)) (CellsAt.one rfl) ?_
              exact ⟨_, ⟨rfl, rfl⟩, hG⟩
            | 3, ho_ =>
              obtain rfl := Option.some.inj ho_
              have e6 : r' 6 = vt := (ht.was 6 (by kernel_rfl)).trans e49_6
              have hG := ht.has.drop
              refine o_move (v := vt) e6 ?_
              exact ⟨_, ⟨rfl, rfl⟩, hG⟩
            | 4, ho_ =>
              obtain rfl := Option.some.inj ho_
              have e8 : r' 8 = (.pointer (some ⟨b65, 0, none⟩)) := ht.was 8 (by kernel_rfl)
              have hG := ht.has.drop
              refine o_fieldAddr (k := 3) (fun _ => by kernel_rfl) e8 ?_
              exact ⟨_, ⟨rfl, rfl⟩, hG⟩
            | 5, ho_ =>
              obtain rfl := Option.some.inj ho_
              obtain ⟨e46, eh4⟩ := (ht.done 4 _ rfl rfl).1
              have hG := ht.has.drop
              refine o_load1 (v := (.int .i64 x63.txn)) Try.underlying3 rfl e46 hG (ht.fr [Hp.one b65 (.cells #[(.int .i64 x63.kind), (.int .i64 x63.stream), (.int .i64 x63.page), (.int .i64 x63.txn), (.int .i64 x63.n), x63.more] 30 (0, 0))] (by simp)) (CellsAt.one rfl) ?_
              exact ⟨_, ⟨rfl, rfl⟩, hG⟩
            | 6, ho_ =>
              obtain rfl := Option.some.inj ho_
              obtain ⟨e45, eh3⟩ := (ht.done 3 _ rfl rfl).1
              obtain ⟨e47, eh5⟩ := (ht.done 5 _ rfl rfl).1
              have hG := ht.has.drop
              refine o_callf (vs := #[vt, (.int .i64 x63.txn)]) ca16 rfl (args2 e45 e47) (find_c hG.all (l := lt) (hot.sl.mono (ht.todo 12 rfl)) x63.txn) ?_
              rintro _ w85 ⟨rfl, hX83⟩
              refine ⟨_, rfl, ?_⟩
              have hH84 := hX83.of_all
              exact ⟨_, ⟨rfl, rfl⟩, hH84⟩
            | 7, ho_ =>
              obtain rfl := Option.some.inj ho_
              have e5 : r' 5 = vp := (ht.was 5 (by kernel_rfl)).trans e49_5
              have hG := ht.has.drop
              refine o_move (v := vp) e5 ?_
              exact ⟨_, ⟨rfl, rfl⟩, hG⟩
            | 8, ho_ =>
              obtain rfl := Option.some.inj ho_
              have e8 : r' 8 = (.pointer (some ⟨b65, 0, none⟩)) := ht.was 8 (by kernel_rfl)
              have hG := ht.has.drop
              refine o_fieldAddr (k := 2) (fun _ => by kernel_rfl) e8 ?_
              exact ⟨_, ⟨rfl, rfl⟩, hG⟩
            | 9, ho_ =>
              obtain rfl := Option.some.inj ho_
              obtain ⟨e50, eh8⟩ := (ht.done 8 _ rfl rfl).1
              have hG := ht.has.drop
              refine o_load1 (v := (.int .i64 x63.page)) Try.underlying3 rfl e50 hG (ht.fr [Hp.one b65 (.cells #[(.int .i64 x63.kind), (.int .i64 x63.stream), (.int .i64 x63.page), (.int .i64 x63.txn), (.int .i64 x63.n), x63.more] 30 (0, 0))] (by simp)) (CellsAt.one rfl) ?_
              exact ⟨_, ⟨rfl, rfl⟩, hG⟩
            | 10, ho_ =>
              obtain rfl := Option.some.inj ho_
              obtain ⟨e49, eh7⟩ := (ht.done 7 _ rfl rfl).1
              obtain ⟨e51, eh9⟩ := (ht.done 9 _ rfl rfl).1
              have hG := ht.has.drop
              refine o_callf (vs := #[vp, (.int .i64 x63.page)]) ca16 rfl (args2 e49 e51) (find_c hG.all (l := lp) (hop.sl.mono (ht.fr sp (by simp))) x63.page) ?_
              rintro _ w88 ⟨rfl, hX86⟩
              refine ⟨_, rfl, ?_⟩
              have hH87 := hX86.of_all
              exact ⟨_, ⟨rfl, rfl⟩, hH87⟩
            | 11, ho_ =>
              obtain rfl := Option.some.inj ho_
              obtain ⟨e48, eh6⟩ := (ht.done 6 _ rfl rfl).1
              obtain ⟨e52, eh10⟩ := (ht.done 10 _ rfl rfl).1
              have hG := ht.has.drop
              refine o_max (a := (findT lt x63.txn)) (b := (findT lp x63.page)) e48 e52 ?_
              exact ⟨_, ⟨rfl, rfl⟩, hG⟩
            | 12, ho_ =>
              obtain rfl := Option.some.inj ho_
              obtain ⟨e42, eh0⟩ := (ht.done 0 _ rfl rfl).1
              obtain ⟨e44, eh2⟩ := (ht.done 2 _ rfl rfl).1
              obtain ⟨e53, eh11⟩ := (ht.done 11 _ rfl rfl).1
              have hG := ht.has
              refine o_callf (vs := #[vt, (.int .i64 x63.txn), (.int .i64 (max (findT lt x63.txn) (findT lp x63.page)))]) ca15 rfl (args3 e42 e44 e53) (with_c hG.all1 hot (by omega) x63.txn (max (findT lt x63.txn) (findT lp x63.page))) ?_
              rintro _ w94 ⟨v89, s90, rfl, ho91, hX92⟩
              refine ⟨_, rfl, ?_⟩
              have hH93 := hX92.of_all1
              exact ⟨_, ⟨v89, s90, rfl, rfl, ho91⟩, hH93⟩
            | 13, ho_ =>
              obtain rfl := Option.some.inj ho_
              obtain ⟨v89, s90, e54, eh12, ho91⟩ := (ht.done 12 _ rfl rfl).1
              have hG := ht.has.drop
              refine o_assign (v := v89) e54 ?_
              exact ⟨_, ⟨v89, e54, rfl, rfl⟩, hG⟩
            | i_ + 14, ho_ => exact absurd ho_ (by simp)
          · intro vs95 hs96 w97 hT98 hH99
            obtain ⟨e0_, eh0_⟩ := hT98 0 _ rfl
            obtain ⟨e1_, eh1_⟩ := hT98 1 _ rfl
            obtain ⟨e2_, eh2_⟩ := hT98 2 _ rfl
            obtain ⟨e3_, eh3_⟩ := hT98 3 _ rfl
            obtain ⟨e4_, eh4_⟩ := hT98 4 _ rfl
            obtain ⟨e5_, eh5_⟩ := hT98 5 _ rfl
            obtain ⟨e6_, eh6_⟩ := hT98 6 _ rfl
            obtain ⟨e7_, eh7_⟩ := hT98 7 _ rfl
            obtain ⟨e8_, eh8_⟩ := hT98 8 _ rfl
            obtain ⟨e9_, eh9_⟩ := hT98 9 _ rfl
            obtain ⟨e10_, eh10_⟩ := hT98 10 _ rfl
            obtain ⟨e11_, eh11_⟩ := hT98 11 _ rfl
            obtain ⟨v89, s90, e12_, eh12_, ho91⟩ := hT98 12 _ rfl
            obtain ⟨v89_13, q13_12, e13_, eh13_⟩ := hT98 13 _ rfl
            have z_ : v89 = v89_13 := Eq.trans (Eq.symm e12_) q13_12
            subst z_
            have hH100 : Has E w97 ([hC, [Hp.one m37 (.map es1 k1)], [Hp.one m38 (.map es74 c75)], [Hp.one b36 (.cells #[(.int .i64 hi), v39, (.map (some m37)), (.map (some m38))] 75 (0, 0))], [Hp.one b65 (.cells #[(.int .i64 x63.kind), (.int .i64 x63.stream), (.int .i64 x63.page), (.int .i64 x63.txn), (.int .i64 x63.n), x63.more] 30 (0, 0))], ss, sp, R] ++ [s90]) := flow_back (cs := [s90]) hH99 (by show (hs96 0 ++ (hs96 1 ++ (hs96 2 ++ (hs96 3 ++ (hs96 4 ++ (hs96 5 ++ (hs96 6 ++ (hs96 7 ++ (hs96 8 ++ (hs96 9 ++ (hs96 10 ++ (hs96 11 ++ (hs96 12 ++ (hs96 13 ++ [])))))))))))))) = _; rw [eh0_, eh1_, eh2_, eh3_, eh4_, eh5_, eh6_, eh7_, eh8_, eh9_, eh10_, eh11_, eh12_, eh13_]; rfl)
            generalize hr102 : puts vs95 _ 0 _ = r101
            have e103_0 : r101 0 = v := by rw [← hr102]; exact e49_0
            have e103_3 : r101 3 = (.pointer (some ⟨b36, 0, none⟩)) := by rw [← hr102]; exact e49_3
            have e103_4 : r101 4 = vs := by rw [← hr102]; exact e49_4
            have e103_5 : r101 5 = vp := by rw [← hr102]; exact e49_5
            have e103_6 : r101 6 = v89 := by rw [← hr102]; exact e13_
            have e103_7 : r101 7 = (.int .i64 (k : Int)) := by rw [← hr102]; exact e49_7
            have e103_8 : r101 8 = (.pointer (some ⟨b65, 0, none⟩)) := by rw [← hr102]; exact rfl
            have e103_17 : r101 17 = (.bool false) := by rw [← hr102]; exact e49_17
            have e103_23 : r101 23 = (.bool (decide ((k : Int) < ((l.length : Nat) : Int)))) := by rw [← hr102]; exact rfl
            have e103_32 : r101 32 = (.bool (decide (x63.kind = 2))) := by rw [← hr102]; exact rfl
            have e103_41 : r101 41 = (.bool (decide (0 ≤ x63.page))) := by rw [← hr102]; exact rfl
            refine t_norm (hK80 _ _ ?_)
            refine wp_exit ?_
            refine t_exit (x_in (?_))
            refine t_norm (hK58 _ _ ?_)
            refine c_region ?_
            refine s_op (o_move (v := (.int .i64 (k : Int))) e103_7 ?_)
            refine s_op (o_add (a := (k : Int)) (b := 1) rfl rfl (w64 (by omega) (by omega)) ?_)
            refine s_op (o_assign (v := (.int .i64 ((k : Int) + 1))) rfl ?_)
            refine s_nil ?_
            have hH104 : Has E w97 [hC, [Hp.one m37 (.map es1 k1)], [Hp.one m38 (.map es74 c75)], [Hp.one b36 (.cells #[(.int .i64 hi), v39, (.map (some m37)), (.map (some m38))] 75 (0, 0))], ss, sp, s90, R] := Has.pick hH100 [0, 0, 0, 0, 1, 1, 2, 1] (by kernel_rfl)
            refine t_norm ⟨l.length - (k + 1), _, rfl, ?_, ?_⟩
            · omega
            · exact ⟨(k + 1), hi, hC, str, es1, k1, pg, es74, c75, (if 0 ≤ x63.txn ∧ 0 ≤ x63.page then putI tx x63.txn (List.foldl max (getI tx x63.txn) [getI pg x63.page]) else tx), vs, ss, ls, vp, sp, lp, v89, s90, (withT lt x63.txn (max (findT lt x63.txn) (findT lp x63.page))), rfl, hH104, (by omega), (hoC), (hp1), (h76), (hos), (hop), (ho91), (hcr.sees_yes (by assumption)), e103_0, e103_3, e103_4, e103_5, e103_6, rfl, e103_17⟩
        · -- not: 0 ≤ x63.page
          refine wp_skip ?_
          refine t_norm (hK80 _ _ ?_)
          refine wp_exit ?_
          refine t_exit (x_in (?_))
          refine t_norm (hK58 _ _ ?_)
          refine c_region ?_
          refine s_op (o_move (v := (.int .i64 (k : Int))) e49_7 ?_)
          refine s_op (o_add (a := (k : Int)) (b := 1) rfl rfl (w64 (by omega) (by omega)) ?_)
          refine s_op (o_assign (v := (.int .i64 ((k : Int) + 1))) rfl ?_)
          refine s_nil ?_
          have hH105 : Has E w79 [hC, [Hp.one m37 (.map es1 k1)], [Hp.one m38 (.map es74 c75)], [Hp.one b36 (.cells #[(.int .i64 hi), v39, (.map (some m37)), (.map (some m38))] 75 (0, 0))], ss, sp, st, R] := Has.pick hH78 [0, 0, 0, 0, 1, 1, 1, 1] (by kernel_rfl)
          refine t_norm ⟨l.length - (k + 1), _, rfl, ?_, ?_⟩
          · omega
          · exact ⟨(k + 1), hi, hC, str, es1, k1, pg, es74, c75, (if 0 ≤ x63.txn ∧ 0 ≤ x63.page then putI tx x63.txn (List.foldl max (getI tx x63.txn) [getI pg x63.page]) else tx), vs, ss, ls, vp, sp, lp, vt, st, lt, rfl, hH105, (by omega), (hoC), (hp1), (h76), (hos), (hop), (hot), (hcr.sees_no (by assumption)), e49_0, e49_3, e49_4, e49_5, e49_6, rfl, e49_17⟩
      · -- not: x63.kind = 2
        refine wp_skip ?_
        refine t_norm (hK70 _ _ ?_)
        refine wp_seq_k fun K106 hK106 => ?_
        refine c_region ?_
        refine s_op (o_move (v := (.pointer (some ⟨b36, 0, none⟩))) e49_3 ?_)
        refine s_op (o_fieldAddr (k := 1) (fun _ => by kernel_rfl) rfl ?_)
        refine s_op (o_load1 (v := (.int .i64 x63.stream)) Try.underlying3 rfl rfl hH69 (seg_sub 0 rfl) (CellsAt.one rfl) ?_)
        have hw107 := wrap_u64 x63.stream
        refine s_op (o_conv (c := (IntKind.wrap .u64 x63.stream)) Try.underlying3 Try.underlying37 rfl rfl ?_)
        refine s_op (o_rem (a := IntKind.wrap .u64 x63.stream) (b := 8) (c := (IntKind.wrap .u64 x63.stream) % 8) rfl rfl (by omega) ((Int.tmod_eq_emod_of_nonneg (by omega))) ?_)
        refine s_op (o_conv (c := ((IntKind.wrap .u64 x63.stream) % 8)) Try.underlying37 Try.underlying3 rfl (w64 (by omega) (by omega)) ?_)
        refine s_op (o_fieldAddr (k := 2) (fun _ => by kernel_rfl) rfl ?_)
        refine s_op (o_load1 (v := (.int .i64 x63.page)) Try.underlying3 rfl rfl hH69 (seg_sub 0 rfl) (CellsAt.one rfl) ?_)
        refine s_op (o_fieldAddr (k := 3) (fun _ => by kernel_rfl) rfl ?_)
        refine s_op (o_load1 (v := (.int .i64 x63.txn)) Try.underlying3 rfl rfl hH69 (seg_sub 0 rfl) (CellsAt.one rfl) ?_)
        obtain ⟨t108, ht110⟩ : ∃ t_, (List.foldl max ((str[((IntKind.wrap .u64 x63.stream) % 8).toNat]?).getD 0) [getI pg x63.page, getI tx x63.txn]) + 1 = t_ := ⟨_, rfl⟩
        have hx109 : 0 ≤ (IntKind.wrap .u64 x63.stream) % 8 ∧ (IntKind.wrap .u64 x63.stream) % 8 < 8 := by omega
        have hr111 := hcr.rises hx109 ht110
        obtain ⟨hr1_, hr2_, hr3_⟩ := hr111
        refine s_op (o_callf (vs := #[(.pointer (some ⟨b36, 0, none⟩)), (.int .i64 ((IntKind.wrap .u64 x63.stream) % 8)), (.int .i64 x63.page), (.int .i64 x63.txn)]) ca17 rfl (args4 rfl rfl rfl rfl) (ctick_c ((((hH69.front 4 rfl).front 4 rfl).front 4 rfl).front 4 rfl).all4 hoC hp1 hp2 hcr.ge ((IntKind.wrap .u64 x63.stream) % 8) x63.page x63.txn t108 (by have := hcr.len8; omega) (by have := hcr.small ((IntKind.wrap .u64 x63.stream) % 8) x63.page x63.txn; omega) ht110 ) ?_)
        rintro _ w125 ⟨s112, es113, c114, es115, c116, rfl, ho117, h118, h119, hX123⟩
        refine ⟨_, rfl, ?_⟩
        have hH124 : Has E w125 [s112, [Hp.one m37 (.map es113 c114)], [Hp.one m38 (.map es115 c116)], [Hp.one b36 (.cells #[(.int .i64 (max hi t108)), v39, (.map (some m37)), (.map (some m38))] 75 (0, 0))], [Hp.one b65 (.cells #[(.int .i64 x63.kind), (.int .i64 x63.stream), (.int .i64 x63.page), (.int .i64 x63.txn), (.int .i64 x63.n), x63.more] 30 (0, 0))], ss, sp, st, R] := hX123.of_all4
        have ho120 : Own 3 1 v39 ((str.set ((IntKind.wrap .u64 x63.stream) % 8).toNat t108) : List Int).length (((str.set ((IntKind.wrap .u64 x63.stream) % 8).toNat t108) : List Int).map iV) s112 := ho117
        have h121 : MapII es113 (if 0 ≤ x63.page then putI pg x63.page t108 else pg) := h118
        have h122 : MapII es115 (if 0 ≤ x63.txn then putI tx x63.txn t108 else tx) := h119
        refine s_op (o_move (v := (.tuple #[(.int .i64 t108), (.int .i64 (0 : Int))])) rfl ?_)
        refine s_op (o_extract (v := (.int .i64 t108)) rfl rfl ?_)
        refine s_op (o_extract (v := (.int .i64 (0 : Int))) rfl rfl ?_)
        refine s_op (o_assign (v := (.int .i64 t108)) rfl ?_)
        refine s_op (o_assign (v := (.int .i64 (0 : Int))) rfl ?_)
        refine s_nil ?_
        refine t_norm (hK106 _ _ ?_)
        refine wp_seq_k fun K126 hK126 => ?_
        refine c_region ?_
        refine s_op (o_fieldAddr (k := 1) (fun _ => by kernel_rfl) rfl ?_)
        refine s_op (o_load1 (v := (.int .i64 x63.stream)) Try.underlying3 rfl rfl hH124 (seg_sub 4 rfl) (CellsAt.one rfl) ?_)
        have hw127 := wrap_u64 x63.stream
        refine s_op (o_conv (c := (IntKind.wrap .u64 x63.stream)) Try.underlying3 Try.underlying37 rfl rfl ?_)
        refine s_op (o_rem (a := IntKind.wrap .u64 x63.stream) (b := 8) (c := (IntKind.wrap .u64 x63.stream) % 8) rfl rfl (by omega) ((Int.tmod_eq_emod_of_nonneg (by omega))) ?_)
        refine s_op (o_conv (c := ((IntKind.wrap .u64 x63.stream) % 8)) Try.underlying37 Try.underlying3 rfl (w64 (by omega) (by omega)) ?_)
        refine s_op (o_assign (v := (.int .i64 ((IntKind.wrap .u64 x63.stream) % 8))) rfl ?_)
        refine s_nil ?_
        refine t_norm (hK126 _ _ ?_)
        refine wp_seq_k fun K128 hK128 => ?_
        refine wp_seq_k fun K129 hK129 => ?_
        refine c_region ?_
        refine s_op (o_move (v := (.int .i64 (0 : Int))) rfl ?_)
        refine s_op (o_neq (a := (0 : Int)) (b := 0) rfl rfl ?_)
        refine s_op (o_move (v := (.bool (decide ((0 : Int) ≠ 0)))) rfl ?_)
        by_cases h130 : (0 : Int) ≠ 0
        · -- (0 : Int) ≠ 0
          exact absurd rfl h130
        · -- not: (0 : Int) ≠ 0
          refine s_on 76 rfl (congrArg Value.bool (decide_eq_false h130)) (o_move (v := (.int .i64 t108)) rfl ?_)
          refine s_on 76 rfl (congrArg Value.bool (decide_eq_false h130)) (o_move (v := vs) e49_4 ?_)
          refine s_on 76 rfl (congrArg Value.bool (decide_eq_false h130)) (o_move (v := (.int .i64 ((IntKind.wrap .u64 x63.stream) % 8))) rfl ?_)
          refine s_on 76 rfl (congrArg Value.bool (decide_eq_false h130)) (o_callf (vs := #[vs, (.int .i64 ((IntKind.wrap .u64 x63.stream) % 8))]) ca16 rfl (args2 rfl rfl) (find_c hH124.all (l := ls) (hos.sl.mono (seg_sub 5 rfl)) ((IntKind.wrap .u64 x63.stream) % 8)) ?_)
          rintro _ w133 ⟨rfl, hX131⟩
          refine ⟨_, rfl, ?_⟩
          have hH132 := hX131.of_all
          refine s_on 76 rfl (congrArg Value.bool (decide_eq_false h130)) (o_leq (a := t108) (b := (findT ls ((IntKind.wrap .u64 x63.stream) % 8))) rfl rfl ?_)
          refine s_op (o_pick_f (u := (.bool (decide (t108 ≤ (findT ls ((IntKind.wrap .u64 x63.stream) % 8)))))) ((rfl : _ = _).trans (congrArg Value.bool (decide_eq_false h130))) rfl ?_)
          refine s_op (o_move (v := (.bool (decide (t108 ≤ (findT ls ((IntKind.wrap .u64 x63.stream) % 8)))))) rfl ?_)
          by_cases h134 : t108 ≤ (findT ls ((IntKind.wrap .u64 x63.stream) % 8))
          · -- t108 ≤ (findT ls ((IntKind.wrap .u64 x63.stream) % 8))
            exfalso; omega
          · -- not: t108 ≤ (findT ls ((IntKind.wrap .u64 x63.stream) % 8))
            refine s_on 83 rfl (congrArg Value.bool (decide_eq_false h134)) (o_move (v := (.int .i64 t108)) rfl ?_)
            refine s_on 83 rfl (congrArg Value.bool (decide_eq_false h134)) (o_move (v := vp) e49_5 ?_)
            refine s_on 83 rfl (congrArg Value.bool (decide_eq_false h134)) (o_fieldAddr (k := 2) (fun _ => by kernel_rfl) rfl ?_)
            refine s_on 83 rfl (congrArg Value.bool (decide_eq_false h134)) (o_load1 (v := (.int .i64 x63.page)) Try.underlying3 rfl rfl hH132 (seg_sub 4 rfl) (CellsAt.one rfl) ?_)
            refine s_on 83 rfl (congrArg Value.bool (decide_eq_false h134)) (o_callf (vs := #[vp, (.int .i64 x63.page)]) ca16 rfl (args2 rfl rfl) (find_c hH132.all (l := lp) (hop.sl.mono (seg_sub 6 rfl)) x63.page) ?_)
            rintro _ w137 ⟨rfl, hX135⟩
            refine ⟨_, rfl, ?_⟩
            have hH136 := hX135.of_all
            refine s_on 83 rfl (congrArg Value.bool (decide_eq_false h134)) (o_leq (a := t108) (b := (findT lp x63.page)) rfl rfl ?_)
            refine s_op (o_pick_f (u := (.bool (decide (t108 ≤ (findT lp x63.page))))) ((rfl : _ = _).trans (congrArg Value.bool (decide_eq_false h134))) rfl ?_)
            refine s_op (o_move (v := (.bool (decide (t108 ≤ (findT lp x63.page))))) rfl ?_)
            by_cases h138 : t108 ≤ (findT lp x63.page)
            · -- t108 ≤ (findT lp x63.page)
              exfalso; omega
            · -- not: t108 ≤ (findT lp x63.page)
              refine s_on 91 rfl (congrArg Value.bool (decide_eq_false h138)) (o_move (v := (.int .i64 t108)) rfl ?_)
              refine s_on 91 rfl (congrArg Value.bool (decide_eq_false h138)) (o_move (v := vt) e49_6 ?_)
              refine s_on 91 rfl (congrArg Value.bool (decide_eq_false h138)) (o_fieldAddr (k := 3) (fun _ => by kernel_rfl) rfl ?_)
              refine s_on 91 rfl (congrArg Value.bool (decide_eq_false h138)) (o_load1 (v := (.int .i64 x63.txn)) Try.underlying3 rfl rfl hH136 (seg_sub 4 rfl) (CellsAt.one rfl) ?_)
              refine s_on 91 rfl (congrArg Value.bool (decide_eq_false h138)) (o_callf (vs := #[vt, (.int .i64 x63.txn)]) ca16 rfl (args2 rfl rfl) (find_c hH136.all (l := lt) (hot.sl.mono (seg_sub 7 rfl)) x63.txn) ?_)
              rintro _ w141 ⟨rfl, hX139⟩
              refine ⟨_, rfl, ?_⟩
              have hH140 := hX139.of_all
              refine s_on 91 rfl (congrArg Value.bool (decide_eq_false h138)) (o_leq (a := t108) (b := (findT lt x63.txn)) rfl rfl ?_)
              refine s_op (o_pick_f (u := (.bool (decide (t108 ≤ (findT lt x63.txn))))) ((rfl : _ = _).trans (congrArg Value.bool (decide_eq_false h138))) rfl ?_)
              refine s_nil ?_
              refine t_norm (hK129 _ _ ?_)
              refine c_cond rfl (fun h142 => ?_) (fun h142 => ?_)
              · -- t108 ≤ (findT lt x63.txn)
                exfalso; omega
              · -- not: t108 ≤ (findT lt x63.txn)
                refine wp_skip ?_
                refine t_norm (hK128 _ _ ?_)
                refine wp_seq_k fun K143 hK143 => ?_
                refine c_region ?_
                refine s_op (o_move (v := vs) e49_4 ?_)
                refine s_op (o_move (v := (.int .i64 ((IntKind.wrap .u64 x63.stream) % 8))) rfl ?_)
                refine s_op (o_move (v := (.int .i64 t108)) rfl ?_)
                refine s_op (o_callf (vs := #[vs, (.int .i64 ((IntKind.wrap .u64 x63.stream) % 8)), (.int .i64 t108)]) ca15 rfl (args3 rfl rfl rfl) (with_c (hH140.front 5 rfl).all1 hos (by omega) ((IntKind.wrap .u64 x63.stream) % 8) t108) ?_)
                rintro _ w149 ⟨v144, s145, rfl, ho146, hX147⟩
                refine ⟨_, rfl, ?_⟩
                have hH148 : Has E w149 [s145, s112, [Hp.one m37 (.map es113 c114)], [Hp.one m38 (.map es115 c116)], [Hp.one b36 (.cells #[(.int .i64 (max hi t108)), v39, (.map (some m37)), (.map (some m38))] 75 (0, 0))], [Hp.one b65 (.cells #[(.int .i64 x63.kind), (.int .i64 x63.stream), (.int .i64 x63.page), (.int .i64 x63.txn), (.int .i64 x63.n), x63.more] 30 (0, 0))], sp, st, R] := hX147.of_all1
                refine s_op (o_assign (v := v144) rfl ?_)
                refine s_nil ?_
                refine t_norm (hK143 _ _ ?_)
                refine wp_seq_k fun K150 hK150 => ?_
                refine c_region ?_
                refine s_op (o_move (v := vp) e49_5 ?_)
                refine s_op (o_fieldAddr (k := 2) (fun _ => by kernel_rfl) rfl ?_)
                refine s_op (o_load1 (v := (.int .i64 x63.page)) Try.underlying3 rfl rfl hH148 (seg_sub 5 rfl) (CellsAt.one rfl) ?_)
                refine s_op (o_move (v := (.int .i64 t108)) rfl ?_)
                refine s_op (o_callf (vs := #[vp, (.int .i64 x63.page), (.int .i64 t108)]) ca15 rfl (args3 rfl rfl rfl) (with_c (hH148.front 6 rfl).all1 hop (by omega) x63.page t108) ?_)
                rintro _ w156 ⟨v151, s152, rfl, ho153, hX154⟩
                refine ⟨_, rfl, ?_⟩
                have hH155 : Has E w156 [s152, s145, s112, [Hp.one m37 (.map es113 c114)], [Hp.one m38 (.map es115 c116)], [Hp.one b36 (.cells #[(.int .i64 (max hi t108)), v39, (.map (some m37)), (.map (some m38))] 75 (0, 0))], [Hp.one b65 (.cells #[(.int .i64 x63.kind), (.int .i64 x63.stream), (.int .i64 x63.page), (.int .i64 x63.txn), (.int .i64 x63.n), x63.more] 30 (0, 0))], st, R] := hX154.of_all1
                refine s_op (o_assign (v := v151) rfl ?_)
                refine s_nil ?_
                refine t_norm (hK150 _ _ ?_)
                refine c_region ?_
                refine s_op (o_move (v := vt) e49_6 ?_)
                refine s_op (o_fieldAddr (k := 3) (fun _ => by kernel_rfl) rfl ?_)
                refine s_op (o_load1 (v := (.int .i64 x63.txn)) Try.underlying3 rfl rfl hH155 (seg_sub 6 rfl) (CellsAt.one rfl) ?_)
                refine s_op (o_move (v := (.int .i64 t108)) rfl ?_)
                refine s_op (o_callf (vs := #[vt, (.int .i64 x63.txn), (.int .i64 t108)]) ca15 rfl (args3 rfl rfl rfl) (with_c (hH155.front 7 rfl).all1 hot (by omega) x63.txn t108) ?_)
                rintro _ w162 ⟨v157, s158, rfl, ho159, hX160⟩
                refine ⟨_, rfl, ?_⟩
                have hH161 : Has E w162 [s158, s152, s145, s112, [Hp.one m37 (.map es113 c114)], [Hp.one m38 (.map es115 c116)], [Hp.one b36 (.cells #[(.int .i64 (max hi t108)), v39, (.map (some m37)), (.map (some m38))] 75 (0, 0))], [Hp.one b65 (.cells #[(.int .i64 x63.kind), (.int .i64 x63.stream), (.int .i64 x63.page), (.int .i64 x63.txn), (.int .i64 x63.n), x63.more] 30 (0, 0))], R] := hX160.of_all1
                refine s_op (o_assign (v := v157) rfl ?_)
                refine s_nil ?_
                refine b_norm ?_
                refine t_norm (hK58 _ _ ?_)
                refine c_region ?_
                refine s_op (o_move (v := (.int .i64 (k : Int))) e49_7 ?_)
                refine s_op (o_add (a := (k : Int)) (b := 1) rfl rfl (w64 (by omega) (by omega)) ?_)
                refine s_op (o_assign (v := (.int .i64 ((k : Int) + 1))) rfl ?_)
                refine s_nil ?_
                have hH163 : Has E w162 [s112, [Hp.one m37 (.map es113 c114)], [Hp.one m38 (.map es115 c116)], [Hp.one b36 (.cells #[(.int .i64 (max hi t108)), v39, (.map (some m37)), (.map (some m38))] 75 (0, 0))], s145, s152, s158, R] := Has.pick hH161 [3, 3, 3, 3, 2, 1, 0, 1] (by kernel_rfl)
                refine t_norm ⟨l.length - (k + 1), _, rfl, ?_, ?_⟩
                · omega
                · exact ⟨(k + 1), (max hi t108), s112, (str.set ((IntKind.wrap .u64 x63.stream) % 8).toNat t108), es113, c114, (if 0 ≤ x63.page then putI pg x63.page t108 else pg), es115, c116, (if 0 ≤ x63.txn then putI tx x63.txn t108 else tx), v144, s145, (withT ls ((IntKind.wrap .u64 x63.stream) % 8) t108), v151, s152, (withT lp x63.page t108), v157, s158, (withT lt x63.txn t108), rfl, hH163, (by omega), (ho120), (h121), (h122), (ho146), (ho153), (ho159), (hcr.tick hx109 ht110), e49_0, e49_3, rfl, rfl, rfl, rfl, e49_17⟩
    · -- not: (k : Int) < ((l.length : Nat) : Int)
      refine wp_exit ?_
      refine t_exit (t_exit (x_in (?_)))
      refine t_norm (hK47 _ _ ?_)
      refine wp_seq_k fun K164 hK164 => ?_
      refine c_region ?_
      refine s_op (o_assign (v := (.bool true)) rfl ?_)
      refine s_nil ?_
      refine t_norm (hK164 _ _ ?_)
      refine wp_ret ?_
      refine c_ret1 Try.results3 (v := (.bool true)) rfl ?_
      have hH165 : Has E w52 [R] := (hH53.front 7 rfl).first 1 rfl
      exact ⟨rfl, hH165⟩
end Go.Q
